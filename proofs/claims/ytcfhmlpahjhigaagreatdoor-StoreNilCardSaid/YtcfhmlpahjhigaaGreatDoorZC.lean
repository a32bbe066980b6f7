/- Soundness, part 6: what makes memory: boxes, literals, make, append, copy, clear, conversions. -/
import Derived.Test.YtcfhmlpahjhigaaGreatDoorZB
import Derived.IntWalk
namespace Go.AI
variable {P : Program} {pt : PT} {w0 : W0} {μ : Mu} {σ : St} {w : World}

/-- What an operation that yields a value comes to. -/
def Yields (P : Program) (w0 : W0) (μ : Mu) (σ : St) (w : World) (s : Sem Value) (v : V) (σ' : St) : Prop :=
  ∃ cv w' μ', s.run P w = .ok cv w' ∧ SR w0 μ' σ' w' ∧ Ext μ σ μ' σ' ∧ R μ' v cv

theorem Yields.same (h : SR w0 μ σ w) {s : Sem Value} {v : V} (k : ∃ cv, s.run P w = .ok cv w ∧ R μ v cv) : Yields P w0 μ σ w s v σ :=
  let ⟨cv, h1, h2⟩ := k; ⟨cv, w, μ, h1, h, Ext.refl μ σ, h2⟩

theorem newRow_ok (h : SR w0 μ σ w) {vs : List V} {pre : List Value} {c : Array Value} {rest : List Value} (hr : RL μ vs pre) (hc : c.toList = pre ++ rest) (e : TypeId) :
    (newRow e c).run P w = .ok ⟨w.heap.size, 0, none⟩ { w with heap := w.heap.push (.cells c e) } ∧
      SR w0 (μ.add σ.next ⟨w.heap.size, 0, c.size⟩) (σ.alloc (.cells false vs)) { w with heap := w.heap.push (.cells c e) } ∧
      Ext μ σ (μ.add σ.next ⟨w.heap.size, 0, c.size⟩) (σ.alloc (.cells false vs)) := by
  have hm := μ.le_add (⟨w.heap.size, 0, c.size⟩ : Loc) h.next_none
  have hobj : RObj w0 (μ.add σ.next ⟨w.heap.size, 0, c.size⟩) ⟨w.heap.size, 0, c.size⟩ (.cells false vs) (.cells c e) := by
    refine ⟨c, e, (0, 0), rfl, rfl, fun i v hv => ?_, fun _ => ⟨h.below.new, rfl⟩⟩
    obtain ⟨cv, h1, h2⟩ := RL_get hr i v hv
    refine ⟨cv, ?_, R_mono hm v h2⟩
    have hlt : i < pre.length := by
      rcases Nat.lt_or_ge i pre.length with hh | hh
      · exact hh
      · rw [List.getElem?_eq_none hh] at h1; cases h1
    rw [← Array.getElem?_toList, hc, Nat.zero_add, List.getElem?_append_left hlt]
    exact h1
  obtain ⟨h1, h2⟩ := h.alloc (O := .cells c e) rfl hobj
  exact ⟨rfl, h1, h2⟩

/-- An operation that makes one new block, and yields a value that hangs on its number. -/
def Makes (P : Program) (w0 : W0) (μ : Mu) (w : World) (s : Sem Value) (v : Nat → V) (a : AObj) : Prop :=
  ∃ cv O p, s.run P w = .ok cv { w with heap := w.heap.push O } ∧ p.blk = w.heap.size ∧ ∀ b μ', μ.le μ' → μ' b = some p → RObj w0 μ' p a O ∧ R μ' (v b) cv

theorem Makes.yields {s : Sem Value} {v : Nat → V} {a : AObj} (h : SR w0 μ σ w) (hm : Makes P w0 μ w s v a) : Yields P w0 μ σ w s (v σ.next) (σ.alloc a) := by
  obtain ⟨cv, O, p, h1, h2, h3⟩ := hm
  obtain ⟨h4, h5⟩ := h3 σ.next (μ.add σ.next p) (μ.le_add p h.next_none) (Mu.add_same _ _ _)
  obtain ⟨h6, h7⟩ := h.alloc h2 h4
  exact ⟨cv, _, _, h1, h6, h7, h5⟩

theorem row_makes (hb : w0.may w.heap.size) {vs : List V} {pre : List Value} {c : Array Value} {rest : List Value} (hr : RL μ vs pre) (hc : c.toList = pre ++ rest) (e : TypeId) (_b : Nat) (μ' : Mu) (hle : μ.le μ') :
    RObj w0 μ' ⟨w.heap.size, 0, c.size⟩ (.cells false vs) (.cells c e) := by
  refine ⟨c, e, (0, 0), rfl, rfl, fun i v hv => ?_, fun _ => ⟨hb, rfl⟩⟩
  obtain ⟨cv, h1, h2⟩ := RL_get hr i v hv
  refine ⟨cv, ?_, R_mono hle v h2⟩
  have hlt : i < pre.length := by
    rcases Nat.lt_or_ge i pre.length with hh | hh
    · exact hh
    · rw [List.getElem?_eq_none hh] at h1; cases h1
  rw [← Array.getElem?_toList, hc, Nat.zero_add, List.getElem?_append_left hlt]
  exact h1

theorem alloc_makes (hpt : pt.Ok P) (hb : w0.may w.heap.size) {e : TypeId} {z : V} (hz : pt.zero e = some z) :
    Makes P w0 μ w (Instr.alloc e true (.tuple #[])) (fun b => .ptr b 0) (.cells false z.cells) := by
  obtain ⟨v, h1, h2⟩ := run_zero hpt hz w
  refine ⟨_, .cells v.cells e, ⟨w.heap.size, 0, v.cells.size⟩, ?_, rfl, fun b μ' hle hp => ⟨row_makes hb (R_cells (h2 μ)) (rest := []) (by simp) e b μ' hle, _, hp, rfl⟩⟩
  simp [Instr.alloc, newVar, h1, newRow]

theorem box_makes (hb : w0.may w.heap.size) {e : TypeId} {x : V} {cx : Value} (hx : R μ x cx) :
    Makes P w0 μ w (Instr.box e cx) (fun b => .ptr b 0) (.cells false x.cells) := by
  refine ⟨_, .cells cx.cells e, ⟨w.heap.size, 0, cx.cells.size⟩, ?_, rfl, fun b μ' hle hp => ⟨row_makes hb (R_cells hx) (rest := []) (by simp) e b μ' hle, _, hp, rfl⟩⟩
  simp [Instr.box, newVar, newRow]

theorem alloc_ok (hpt : pt.Ok P) (h : SR w0 μ σ w) {e : TypeId} {z : V} (hz : pt.zero e = some z) :
    Yields P w0 μ σ w (Instr.alloc e true (.tuple #[])) (.ptr σ.next 0) (σ.alloc (.cells false z.cells)) := by
  obtain ⟨v, h1, h2⟩ := run_zero hpt hz w
  obtain ⟨h3, h4, h5⟩ := newRow_ok (P := P) h (R_cells (h2 μ)) (c := v.cells) (rest := []) (by simp) e
  refine ⟨_, _, _, ?_, h4, h5, _, Mu.add_same _ _ _, rfl⟩
  simp [Instr.alloc, newVar, h1, h3]

theorem box_ok (h : SR w0 μ σ w) {e : TypeId} {x : V} {cx : Value} (hx : R μ x cx) :
    Yields P w0 μ σ w (Instr.box e cx) (.ptr σ.next 0) (σ.alloc (.cells false x.cells)) := by
  obtain ⟨h3, h4, h5⟩ := newRow_ok (P := P) h (R_cells hx) (c := cx.cells) (rest := []) (by simp) e
  refine ⟨_, _, _, ?_, h4, h5, _, Mu.add_same _ _ _, rfl⟩
  simp [Instr.box, newVar, h3]

theorem map_range0 (f g : Nat → Value) {n : Nat} (h : n = 0) : Array.map f (Array.range n) = Array.map g (Array.range n) := by subst h; simp

/-- A slice over a new block. -/
theorem R_newSlice {b len cap sz size : Nat} {β : Nat} {capo : Cap} (hl : len ≤ cap) (hc : capo.ok cap) (hs : cap * sz ≤ size) :
    R (μ.add b ⟨β, 0, size⟩) (.slice b 0 len capo sz) (.slice (some ⟨β, 0, none⟩) len cap) :=
  ⟨_, _, rfl, hl, hc, fun _ => ⟨_, Mu.add_same _ _ _, rfl, by simpa using hs⟩, _, Mu.add_same _ _ _⟩

theorem R_newSlice' {μ' : Mu} {b len cap sz size : Nat} {β : Nat} {capo : Cap} (hp : μ' b = some ⟨β, 0, size⟩) (hl : len ≤ cap) (hc : capo.ok cap) (hs : cap * sz ≤ size) :
    R μ' (.slice b 0 len capo sz) (.slice (some ⟨β, 0, none⟩) len cap) :=
  ⟨_, _, rfl, hl, hc, fun _ => ⟨_, hp, rfl, by simpa using hs⟩, _, hp⟩

theorem buildSlice_makes (hpt : pt.Ok P) (hbel : w0.may w.heap.size) {t : TypeId} {len : Nat} {ps : List (Nat × V)} {cps : Array (Nat × Value)} {v : V} {σ' : St} (he : buildSliceA pt t len ps σ = some (v, σ')) (hp : RParts μ ps cps.toList) :
    ∃ vf a, Makes P w0 μ w (Instr.buildSlice t len cps) vf a ∧ v = vf σ.next ∧ σ' = σ.alloc a := by
  unfold buildSliceA at he
  split at he
  · rename_i e n hel
    obtain ⟨hu, hn⟩ := elem_ok hel
    split at he
    · rename_i zs hb hz
      have hb : len * n ≤ 100000 := by simpa using hb
      split at he
      · rename_i cs hf
        have he := Option.some.inj he; cases he
        obtain ⟨z, s, h1, h2, h3, h4⟩ := zerosA_ok (μ := μ) hpt hz w
        have : s = n := by rw [hn] at h2; exact (Option.some.inj h2).symm
        subst this
        have hsmall : ¬ len * s > 2 ^ 24 := by omega
        obtain ⟨oc, h5, h6⟩ := fill_ok (placeC := fun i => some (i * s, s)) (fun i x hx => hx) ps cps.toList zs cs _ hp (h4 (len * s) rfl) hf
        have h7 : (newRow e oc).run P w = .ok ⟨w.heap.size, 0, none⟩ { w with heap := w.heap.push (.cells oc e) } := rfl
        have hsize : len * s ≤ oc.size := by
          have e1 := RL_length h6
          have e2 : cs.length = len * s := by
            have : ∀ (ps : List (Nat × V)) (cells out : List V), fillA (fun i => some (i * s, s)) cells ps = some out → out.length = cells.length := by
              intro ps
              induction ps with
              | nil => intro cells out hh; simp only [fillA] at hh; cases hh; rfl
              | cons x xs ih =>
                intro cells out hh
                obtain ⟨i, v⟩ := x
                simp only [fillA] at hh
                split at hh
                · split at hh
                  · rename_i cells' hov
                    obtain ⟨e3, e4⟩ := overS_spec _ _ _ _ hov
                    rw [ih _ _ hh, e3, overlay_length e4]
                  · cases hh
                · cases hh
            rw [this _ _ _ hf]
            have := RL_length (h4 (len * s) rfl)
            simpa using this.symm
          simp at e1; omega
        refine ⟨fun b => .slice b 0 len (.exact len) s, .cells false cs, ⟨_, .cells oc e, ⟨w.heap.size, 0, oc.size⟩, ?_, rfl, fun b μ' hle hp => ⟨row_makes hbel h6 (rest := []) (by simp) e b μ' hle, R_newSlice' hp (Nat.le_refl _) rfl hsize⟩⟩, rfl, rfl⟩
        simp only [Instr.buildSlice, Sem.run_bind, run_und hpt hu w, Result.andThen_ok, run_size hpt hn w, Sem.run_ite, if_neg hsmall]
        have h5' : ∀ a : Array Value, (len * s = 0 ∨ a = z.cells) →
            Instr.fill (fun i => some (i * s, s)) (Array.map (fun x => a[x % a.size]!) (Array.range (len * s))) cps.toList = some oc := by
          intro a ha
          rcases ha with h0 | rfl
          · rw [← h5, map_range0 _ (fun i => z.cells[i % z.cells.size]!) h0]
          · exact h5
        split
        · rename_i h0
          simp only [Sem.run_pure, Result.andThen_ok, Sem.run_bind, h5' #[] (.inl h0), h7]
        · simp only [Sem.run_pure, Result.andThen_ok, Sem.run_bind, h1, h5' z.cells (.inr rfl), h7]
      · cases he
    · cases he
  · cases he

theorem buildSliceA_ok (hpt : pt.Ok P) (h : SR w0 μ σ w) {t : TypeId} {len : Nat} {ps : List (Nat × V)} {cps : Array (Nat × Value)} {v : V} {σ' : St} (he : buildSliceA pt t len ps σ = some (v, σ')) (hp : RParts μ ps cps.toList) :
    Yields P w0 μ σ w (Instr.buildSlice t len cps) v σ' := by
  obtain ⟨vf, a, h1, rfl, rfl⟩ := buildSlice_makes (P := P) (w := w) hpt h.below.new he hp
  exact h1.yields h

theorem makeSlice_makes (hpt : pt.Ok P) (hbel : w0.may w.heap.size) {t : TypeId} {l c : V} {v : V} {σ' : St} (he : makeSliceA pt t l c σ = some (v, σ')) {cl cc : Value} (hl : R μ l cl) (hc : R μ c cc) :
    ∃ vf a, Makes P w0 μ w (Instr.makeSlice t cl cc) vf a ∧ v = vf σ.next ∧ σ' = σ.alloc a := by
  unfold makeSliceA at he
  split at he
  · rename_i e n hel
    obtain ⟨hu, hn⟩ := elem_ok hel
    split at he
    · rename_i ln cn i hln hcn hi
      split at he
      · rename_i hb
        simp only [Bool.and_eq_true, Nat.ble_eq] at hb
        obtain ⟨⟨hb1, hb2⟩, hb3⟩ := hb
        split at he
        · rename_i zs hz
          have he := Option.some.inj he; cases he
          obtain ⟨k1, e1⟩ := natOf_ok hln hl
          obtain ⟨k2, e2⟩ := natOf_ok hcn hc
          subst e1; subst e2
          obtain ⟨z, s, h1, h2, h3, h4⟩ := zerosA_ok (μ := μ) hpt hz w
          have : s = n := by rw [hn] at h2; exact (Option.some.inj h2).symm
          subst this
          have wl : IntKind.i64.wrap (Int.ofNat ln) = (ln : Int) := IntWalk.i64_in _ (by simp only [Int.ofNat_eq_natCast]; omega)
          have wc : IntKind.i64.wrap (Int.ofNat cn) = (cn : Int) := IntWalk.i64_in _ (by simp only [Int.ofNat_eq_natCast]; omega)
          have hsmall : ¬ ((((decide ((cn : Int) < 0) || decide ((i.bytes : Int) * (cn : Int) > 2 ^ 48)) || decide ((ln : Int) < 0)) || decide ((ln : Int) > (cn : Int))) = true) := by
            have hm : (i.bytes : Int) * (cn : Int) = ((cn * i.bytes : Nat) : Int) := by rw [Nat.mul_comm]; simp
            simp only [Bool.or_eq_true, decide_eq_true_eq, not_or]
            refine ⟨⟨⟨by omega, ?_⟩, by omega⟩, by omega⟩
            rw [hm]; omega
          have h7 : (newRow e ((Array.range (cn * s)).map fun i => z.cells[i % z.cells.size]!)).run P w = .ok ⟨w.heap.size, 0, none⟩ { w with heap := w.heap.push (.cells ((Array.range (cn * s)).map fun i => z.cells[i % z.cells.size]!) e) } := rfl
          refine ⟨fun b => .slice b 0 ln (.exact cn) s, .cells false zs, ⟨_, .cells ((Array.range (cn * s)).map fun i => z.cells[i % z.cells.size]!) e, ⟨w.heap.size, 0, ((Array.range (cn * s)).map fun i => z.cells[i % z.cells.size]!).size⟩, ?_, rfl, fun b μ' hle hp => ⟨row_makes hbel (h4 (cn * s) rfl) (rest := []) (by simp) e b μ' hle, R_newSlice' hp hb1 rfl (by simp)⟩⟩, rfl, rfl⟩
          simp only [Instr.makeSlice, Sem.run_bind, run_und hpt hu w, Result.andThen_ok, asInt, asIntOf, Sem.run_pure, run_info hpt hi w, wl, wc, Sem.run_ite]
          rw [if_neg hsmall]
          have key : ∀ a : Array Value, (cn * s = 0 ∨ a = z.cells) → (Array.map (fun x => a[x % a.size]!) (Array.range (cn * s))) = (Array.range (cn * s)).map fun i => z.cells[i % z.cells.size]! := by
            intro a ha
            rcases ha with h0 | rfl
            · exact map_range0 _ _ h0
            · rfl
          simp only [run_askRoom, Result.andThen_ok, run_size hpt hn w, Int.toNat_natCast]
          split
          · rename_i h0
            simp only [Result.andThen_ok, key #[] (.inl h0), h7]
          · simp only [Result.andThen_ok, h1, h7]
        · cases he
      · cases he
    · cases he
  · cases he

theorem makeSliceA_ok (hpt : pt.Ok P) (h : SR w0 μ σ w) {t : TypeId} {l c : V} {v : V} {σ' : St} (he : makeSliceA pt t l c σ = some (v, σ')) {cl cc : Value} (hl : R μ l cl) (hc : R μ c cc) :
    Yields P w0 μ σ w (Instr.makeSlice t cl cc) v σ' := by
  obtain ⟨vf, a, h1, rfl, rfl⟩ := makeSlice_makes (P := P) (w := w) hpt h.below.new he hl hc
  exact h1.yields h

/-! ### append -/

theorem mul_add_one_size {n s : Nat} : n * s + 1 * s = (n + 1) * s := by rw [← Nat.add_mul]

/-- What an append adds: how many elements, which cells. -/
def Adds (P : Program) (pt : PT) (w0 : W0) (μ : Mu) (σ : St) (e : TypeId) (n : Nat) (d : TypeDesc) (cx : Value) (k : Nat) (cs : List V) : Prop :=
  ((∃ kk, d = .int kk) ∧ k ≤ 1000000 ∧ (∃ kk, cx = .int kk (Int.ofNat k)) ∧ zerosA pt e k = some cs) ∨
  ((∀ kk, d ≠ .int kk) ∧ (∀ w, (Builtin.lenOf cx).run P w = .ok k w) ∧ ∀ w, SR w0 μ σ w → ∃ cvs : List Value, (Builtin.firstCells n k cx).run P w = .ok cvs.toArray w ∧ RL μ cs cvs)

theorem added_ok {e : TypeId} {n : Nat} {argTypes : Array TypeId} {x : V} {k : Nat} {cs : List V} (ha : added pt e n argTypes x σ = some (k, cs)) (hn : pt.size e = some n)
    {cx : Value} (hx : R μ x cx) : ∃ xt d, argTypes[1]? = some xt ∧ pt.und xt = some d ∧ Adds P pt w0 μ σ e n d cx k cs ∧ cs.length = k * n := by
  unfold added at ha
  split at ha
  · rename_i xt hxt
    split at ha
    · rename_i kk hu
      split at ha
      · rename_i m hm
        split at ha
        · rename_i zs hb hz
          have hb : m ≤ 1000000 := by simpa using hb
          have ha := Option.some.inj ha; cases ha
          obtain ⟨k1, e1⟩ := natOf_ok hm hx
          refine ⟨xt, _, hxt, hu, .inl ⟨⟨kk, rfl⟩, hb, ⟨k1, e1⟩, hz⟩, ?_⟩
          unfold zerosA at hz
          split at hz
          · split at hz
            · rename_i s hs
              split at hz
              · rename_i hl
                have hl := Nat.eq_of_beq_eq_true hl
                rw [hn] at hs; cases hs
                cases hz
                rw [times_length, hl]
              · cases hz
            · cases hz
          · cases hz
        · cases ha
      · cases ha
    · rename_i d hne hu
      split at ha
      · rename_i m hm
        split at ha
        · rename_i cells hc
          have ha := Option.some.inj ha; cases ha
          exact ⟨xt, d, hxt, hu, .inr ⟨fun kk e => hne kk (by rw [e]), fun w => lenA_ok hm hx w, fun w hw => firstCells_ok hw hx hc (fun l hl => by rw [hm] at hl; cases hl; exact Nat.le_refl _)⟩,
            readSlice_length hc⟩
        · cases ha
      · cases ha
    · cases ha
  · cases ha

theorem growBy4 (n c : Nat) (h : c < n) : Builtin.growBy n 4 c ≤ 3 * n + 2000 := by
  simp only [Builtin.growBy]
  (repeat' split) <;> omega

theorem nextslicecap_le {need cap : Nat} (h : cap < need) : Builtin.nextslicecap need cap ≤ 3 * need + 2000 := by
  unfold Builtin.nextslicecap
  split
  · omega
  · split
    · omega
    · exact growBy4 _ _ h

/-- What an append computes first: how many elements come, and which cells. -/
theorem run_adds {d : TypeDesc} {cx : Value} {k : Nat} {cs : List V} {e : TypeId} {n : Nat} {i : TypeInfo} (hpt : pt.Ok P) (hn : pt.size e = some n) (ha : Adds P pt w0 μ σ e n d cx k cs)
    (hb : k * i.bytes ≤ 1000000000) : (∃ kk j, d = .int kk ∧ cx = .int j k ∧ IntKind.i64.wrap (k : Int) = (k : Int) ∧ ¬ ((k : Int) < 0) ∧ ¬ ((k : Int) * (i.bytes : Int) > 2 ^ 48) ∧
      ∀ w, SR w0 μ σ w → ∃ z cvs, (zeroValue e).run P w = .ok z w ∧ RL μ cs cvs ∧ (Builtin.zeroCells z.cells k).toList = cvs ∧ (k * n = 0 → cvs = [])) ∨
    ((∀ kk, d ≠ .int kk) ∧ (∀ w, (Builtin.lenOf cx).run P w = .ok k w) ∧ ∀ w, SR w0 μ σ w → ∃ cvs : List Value, (Builtin.firstCells n k cx).run P w = .ok cvs.toArray w ∧ RL μ cs cvs) := by
  rcases ha with ⟨⟨kk, rfl⟩, hk, ⟨k2, rfl⟩, hz⟩ | ⟨hne, hl, hf⟩
  · refine .inl ⟨kk, k2, rfl, rfl, IntWalk.i64_in _ (by omega), by omega, ?_, fun w h => ?_⟩
    · have : (k : Int) * (i.bytes : Int) = ((k * i.bytes : Nat) : Int) := by simp
      rw [this]; omega
    · obtain ⟨z, s, h1, h2, h3, h4⟩ := zerosA_ok (μ := μ) hpt hz w
      have : s = n := by rw [hn] at h2; exact (Option.some.inj h2).symm
      subst this
      refine ⟨z, _, h1, h4 (k * s) rfl, ?_, fun h0 => ?_⟩
      · simp only [Builtin.zeroCells, h3]
      · rw [h0]; simp
  · exact .inr ⟨hne, hl, hf⟩

/-- The way out of an append that has no room: a new row. -/
theorem append_grow (hpt : pt.Ok P) (h : SR w0 μ σ w) {argTypes : Array TypeId} {rt : TypeId} {t e xt : TypeId} {d : TypeDesc} {n k : Nat} {i : TypeInfo} {base : Option Addr} {len cc : Nat} {cx : Value}
    (h0 : argTypes[0]? = some t) (hu : pt.und t = some (.slice e)) (hn : pt.size e = some n) (hi : pt.types.get e = some i) (h1 : argTypes[1]? = some xt) (hd : pt.und xt = some d)
    (hroom : ¬ len + k ≤ cc) (hb : (len + k) * i.bytes ≤ 1000000000) (hl : len ≤ cc) (hsmall : len + k ≤ 1000000000)
    {old cs : List V} (hold : ∀ w, SR w0 μ σ w → ∃ cvs : List Value, (Builtin.firstCells n len (.slice base len cc)).run P w = .ok cvs.toArray w ∧ RL μ old cvs)
    {zz : List V} (hz : zerosA pt e 0 = some zz) (hadd : Adds P pt w0 μ σ e n d cx k cs) (hlen : old.length = len * n) (hlen2 : cs.length = k * n) :
    ∃ w' cap' β size, (Builtin.append_ argTypes rt #[.slice base len cc, cx]).run P w = .ok (.slice (some ⟨β, 0, none⟩) (len + k) cap') w' ∧ len + k ≤ cap' ∧
      SR w0 (μ.add σ.next ⟨β, 0, size⟩) (σ.alloc (.cells false (old ++ cs))) w' ∧ Ext μ σ (μ.add σ.next ⟨β, 0, size⟩) (σ.alloc (.cells false (old ++ cs))) ∧ cap' * n ≤ size := by
  have hkb : k * i.bytes ≤ 1000000000 := Nat.le_trans (Nat.mul_le_mul_right _ (by omega)) hb
  have hq : Question.forced (.appendCap (len + k) cc e) = false := rfl
  obtain ⟨z, s, hz1, hz2, hz3, _⟩ := zerosA_ok (μ := μ) hpt hz { w with drawn := w.drawn + 1 }
  have : s = n := by rw [hn] at hz2; exact (Option.some.inj hz2).symm
  subst this
  have hw := h.drew (w.drawn + 1)
  obtain ⟨c1, hc1, hr1⟩ := hold _ hw
  have hcut : Question.cut (.appendCap (len + k) cc e) (w.tape w.drawn (.appendCap (len + k) cc e)) = len + k + w.tape w.drawn (.appendCap (len + k) cc e) % (2 ^ 63 - (len + k)) := rfl
  have hmax : ∀ q : Prop, ¬ (((len + k : Nat) : Int) > IntKind.i64.max ∧ q) := by
    rintro q ⟨hh, _⟩
    have : IntKind.i64.max = 9223372036854775807 := by unfold IntKind.max; simp only [IntKind.signed, IntKind.bits, if_true]; omega
    omega
  have hnext : ¬ (Builtin.nextslicecap (len + k) cc * i.bytes > 2 ^ 48) := by
    have h1 := nextslicecap_le (need := len + k) (cap := cc) (by omega)
    have h2 : Builtin.nextslicecap (len + k) cc * i.bytes ≤ (3 * (len + k) + 2000) * i.bytes := Nat.mul_le_mul_right _ h1
    have h3 : (3 * (len + k) + 2000) * i.bytes = 3 * ((len + k) * i.bytes) + 2000 * i.bytes := by rw [Nat.add_mul, Nat.mul_assoc]
    have h4 : i.bytes ≤ (len + k) * i.bytes := Nat.le_mul_of_pos_left _ (by omega)
    omega
  obtain ⟨c2, hr2, hrun⟩ : ∃ c2 : List Value, RL μ cs c2 ∧ ∀ cap' b w', Question.cut (.appendCap (len + k) cc e) (w.tape w.drawn (.appendCap (len + k) cc e)) = cap' →
      (newRow e (c1.toArray ++ c2.toArray ++ Builtin.zeroCells z.cells (cap' - (len + k)))).run P { w with drawn := w.drawn + 1 } = .ok b w' →
      (Builtin.append_ argTypes rt #[.slice base len cc, cx]).run P w = .ok (.slice (some b) (len + k) cap') w' := by
    rcases run_adds (i := i) hpt hn hadd hkb with ⟨kk, j, rfl, rfl, wk, hk1, hk2, hzz⟩ | ⟨hne, hl', hf⟩
    · obtain ⟨z', cvs, hz1', hr, hz2', hz3'⟩ := hzz _ hw
      have : z' = z := by rw [hz1] at hz1'; cases hz1'; rfl
      subst this
      refine ⟨cvs, hr, fun cap' b w' hcc hrow => ?_⟩
      unfold Builtin.append_
      simp only [h0, h1, List.getElem?_toArray, List.getElem?_cons_zero, List.getElem?_cons_succ, Sem.run_bind, run_und hpt hu w, run_size hpt hn w, run_und hpt hd w, Result.andThen_ok, Sem.run_pure, if_true, asInt, asIntOf, wk, Sem.run_ite, if_neg hk1, if_neg hk2, Int.toNat_natCast, if_neg hroom, hmax, hnext, if_false, run_choose, hq, Bool.false_eq_true, hcc, run_info hpt hi, run_askRoom, hc1, Bool.not_true]
      by_cases h00 : k * s = 0
      · have e0 := hz3' h00
        subst e0
        simp only [h00, if_true, Result.andThen_ok, hz1, hrow]
      · have e1 : Builtin.zeroCells z'.cells k = cvs.toArray := by rw [← hz2']
        simp only [h00, if_false, hz1, Result.andThen_ok, e1, hrow]
    · obtain ⟨c2, hc2, hr2⟩ := hf _ hw
      refine ⟨c2, hr2, fun cap' b w' hcc hrow => ?_⟩
      unfold Builtin.append_
      simp only [h0, h1, List.getElem?_toArray, List.getElem?_cons_zero, List.getElem?_cons_succ, Sem.run_bind, run_und hpt hu w, run_size hpt hn w, run_und hpt hd w, Result.andThen_ok, Sem.run_pure]
      cases d <;> first | exact absurd rfl (hne _) | skip
      all_goals
        simp only [Bool.false_eq_true, if_false, hl', Result.andThen_ok, Sem.run_ite, if_neg hroom, Bool.not_false, if_true, Sem.run_bind, hmax, hnext, run_choose, hq, hcc, run_info hpt hi, run_askRoom, hc1, hc2, hz1, hrow, Sem.run_pure]
  generalize hcap : len + k + w.tape w.drawn (.appendCap (len + k) cc e) % (2 ^ 63 - (len + k)) = cap' at hcut
  have hge : len + k ≤ cap' := by omega
  have hr := RL_append hr1 hr2
  obtain ⟨h7, h8, h9⟩ := newRow_ok (P := P) hw hr (c := c1.toArray ++ c2.toArray ++ Builtin.zeroCells z.cells (cap' - (len + k))) (rest := (Builtin.zeroCells z.cells (cap' - (len + k))).toList) (by simp) e
  refine ⟨_, cap', w.heap.size, (c1.toArray ++ c2.toArray ++ Builtin.zeroCells z.cells (cap' - (len + k))).size, ?_, hge, h8, h9, ?_⟩
  · exact hrun _ _ _ hcut h7
  · have e1 := RL_length hr1
    have e2 := RL_length hr2
    simp only [Array.size_append, List.size_toArray, e1, e2, hlen, hlen2]
    simp only [Builtin.zeroCells, Array.size_map, Array.size_range, hz3]
    rw [← Nat.add_mul, ← Nat.add_mul]
    exact Nat.mul_le_mul_right _ (by omega)

/-- A new abstract block over a block of the model's on which no living one lies. -/
theorem SR.over (h : SR w0 μ σ w) {a : AObj} {O : Obj} {q : Loc} (hO : w.heap[q.blk]? = some O) (hfree : ∀ c r d, μ c = some r → σ.get c = some d → r.blk ≠ q.blk) (hR : RObj w0 (μ.add σ.next q) q a O) :
    SR w0 (μ.add σ.next q) (σ.alloc a) w ∧ Ext μ σ (μ.add σ.next q) (σ.alloc a) := by
  have hn := h.next_none
  have hle := μ.le_add q hn
  have hq : q.blk < w.heap.size := by
    rcases Nat.lt_or_ge q.blk w.heap.size with hh | hh
    · exact hh
    · rw [Array.getElem?_eq_none hh] at hO; cases hO
  refine ⟨{ below := h.below, lt := ?_, out := ?_, obj := ?_, inj := ?_ }, hle, by simp, fun b hb hm => ⟨?_, ?_⟩⟩
  · intro b r hr
    unfold Mu.add at hr; split at hr
    · subst_vars; cases hr; exact ⟨by simp, hq⟩
    · have := h.lt b r hr; simp; omega
  · intro c hc
    simp at hc
    rw [St.get_alloc, if_neg (by omega)]
    exact h.out c (by omega)
  · intro b r d hr hd
    rw [St.get_alloc] at hd
    unfold Mu.add at hr
    split at hd
    · subst_vars
      simp at hr; subst hr
      cases hd
      exact ⟨O, hO, hR⟩
    · rename_i hne
      rw [if_neg hne] at hr
      obtain ⟨o, ho, hro⟩ := h.obj b r d hr hd
      exact ⟨o, ho, RObj_mono hle hro⟩
  · intro b c r s x y hr hs hx hy hro hne
    rw [St.get_alloc] at hx hy
    unfold Mu.add at hr hs
    split at hx
    · subst_vars
      simp at hr; subst hr
      rw [if_neg (fun e => hne e.symm)] at hs
      rw [if_neg (fun e => hne e.symm)] at hy
      exact fun e => hfree c s y hs hy e.symm
    · rename_i hb
      rw [if_neg hb] at hr
      split at hy
      · subst_vars
        simp at hs; subst hs
        exact hfree b r x hr hx
      · rename_i hc
        rw [if_neg hc] at hs
        exact h.inj b c r s x y hr hs hx hy hro hne
  · unfold Mu.add; rw [if_neg (by omega)]; exact hm
  · rw [St.get_alloc, if_neg (by omega)]

/-- One cell more, behind the last that is known. -/
theorem SR.more (h : SR w0 μ σ w) {b : Nat} {p : Loc} {cs : List V} {v : V} {cv : Value} (hp : μ b = some p) (hg : σ.get b = some (.cells false cs)) (hsz : p.off + cs.length < p.size) (hv : R μ v cv) (h1 : v.oneCell = true) :
    (Go.store ⟨p.blk, p.off + cs.length, none⟩ cv).run P w = .ok () (w.setCell ⟨p.blk, p.off + cs.length, none⟩ cv) ∧
      SR w0 μ (σ.put b (some (.cells false (cs ++ [v])))) (w.setCell ⟨p.blk, p.off + cs.length, none⟩ cv) := by
  obtain ⟨O, hO, c, e, fr, hc', hs, hc, hr⟩ := h.obj b p _ hp hg
  subst hc'
  obtain ⟨hfresh, hfr⟩ := hr rfl
  obtain ⟨hs1, hs2⟩ := heap_setCell w (o := p.off + cs.length) (v := cv) hO
  have hlt : p.off + cs.length < c.size := by omega
  constructor
  · rw [run_store _ _ _ _ _ (by rw [R_oneCell hv]; exact h1)]
    have hcell : w.cell? ⟨p.blk, p.off + cs.length, none⟩ = some c[p.off + cs.length] := by simp [World.cell?, hO, hlt]
    have hfz : w.frozen? ⟨p.blk, p.off + cs.length, none⟩ = false := by
      simp only [World.frozen?, hO]
      simp; omega
    rw [hcell]; simp [hfz]
  · refine h.change (a := .cells false cs) hp hg rfl hfresh (by simp) hs2 rfl rfl rfl hs1 ⟨_, _, _, rfl, by simpa using hs, fun i x hx => ?_, fun _ => ⟨hfresh, hfr⟩⟩
    rcases Nat.lt_trichotomy i cs.length with hi | hi | hi
    · rw [List.getElem?_append_left hi] at hx
      obtain ⟨cx, h3, h4⟩ := hc i x hx
      exact ⟨cx, by rw [Array.getElem?_setIfInBounds_ne (by omega)]; exact h3, h4⟩
    · subst hi
      simp at hx; subst hx
      exact ⟨cv, by simp [hlt], hv⟩
    · rw [List.getElem?_eq_none (by simp; omega)] at hx; cases hx

theorem run_storeMore {b : Nat} {p : Loc} (hp : μ b = some p) (q : Nat) :
    ∀ (vs : List V) (cvs : List Value) (i : Nat) (σ : St) (w : World) (cs : List V), SR w0 μ σ w → σ.get b = some (.cells false cs) → q + i = p.off + cs.length → p.off + cs.length + vs.length ≤ p.size →
      RL μ vs cvs → allOne vs = true →
      ∃ w', (storeCells ⟨p.blk, q, none⟩ cvs i).run P w = .ok () w' ∧ SR w0 μ (σ.put b (some (.cells false (cs ++ vs)))) w' := by
  intro vs
  induction vs with
  | nil =>
    intro cvs i σ w cs h hg _ _ hr _
    simp only [RL] at hr; subst hr
    refine ⟨w, by simp [storeCells], h.congr rfl fun c => ?_⟩
    rw [St.get_put]; split
    · subst_vars; simp [hg]
    · rfl
  | cons v vs ih =>
    intro cvs i σ w cs h hg hq hlen hr hone
    obtain ⟨y, ys, hy, hys, e⟩ := hr
    subst e
    simp only [allOne, Bool.and_eq_true] at hone
    simp only [List.length_cons] at hlen
    obtain ⟨h1, h2⟩ := h.more (P := P) hp hg (by omega) hy hone.1
    have hg' : (σ.put b (some (.cells false (cs ++ [v])))).get b = some (.cells false (cs ++ [v])) := by simp [St.get_put]
    obtain ⟨w', h3, h4⟩ := ih ys (i + 1) _ _ (cs ++ [v]) h2 hg' (by simp; omega) (by simp; omega) hys hone.2
    refine ⟨w', ?_, h4.congr rfl fun c => ?_⟩
    · simp only [storeCells, Sem.run_bind, add_place, hq, h1, Result.andThen_ok, h3]
    · rw [show cs ++ [v] ++ vs = cs ++ v :: vs by simp]
      exact (St.put_put σ b _ _ c).symm

/-- Cells are written, some of them behind the last that is known. -/
theorem run_storeGrow {b : Nat} {p : Loc} (hp : μ b = some p) (q : Nat) :
    ∀ (vs : List V) (cvs : List Value) (i o : Nat) (σ : St) (w : World) (cs : List V), SR w0 μ σ w → σ.get b = some (.cells false cs) → q + i = p.off + o → o ≤ cs.length → p.off + o + vs.length ≤ p.size →
      RL μ vs cvs → allOne vs = true →
      ∃ w', (storeCells ⟨p.blk, q, none⟩ cvs i).run P w = .ok () w' ∧ SR w0 μ (σ.put b (some (.cells false (overlay cs o vs)))) w' := by
  intro vs
  induction vs with
  | nil =>
    intro cvs i o σ w cs h hg _ _ _ hr _
    simp only [RL] at hr; subst hr
    refine ⟨w, by simp [storeCells], h.congr rfl fun c => ?_⟩
    rw [St.get_put]; split
    · subst_vars; simp [overlay, hg]
    · rfl
  | cons v vs ih =>
    intro cvs i o σ w cs h hg hq hlen hsz hr hone
    rcases Nat.lt_or_ge o cs.length with ho | ho
    · obtain ⟨y, ys, hy, hys, e⟩ := hr
      subst e
      simp only [allOne, Bool.and_eq_true] at hone
      obtain ⟨h1, h2⟩ := run_store_cell (P := P) h hp hg ho hy hone.1
      have hg' : (σ.put b (some (.cells false (cs.set o v)))).get b = some (.cells false (cs.set o v)) := by simp [St.get_put]
      obtain ⟨w', h3, h4⟩ := ih ys (i + 1) (o + 1) _ _ (cs.set o v) h2 hg' (by omega) (by simp; omega) (by simp at hsz; omega) hys hone.2
      refine ⟨w', ?_, h4.congr rfl fun c => ?_⟩
      · simp only [storeCells, Sem.run_bind, add_place, hq, h1, Result.andThen_ok, h3]
      · rw [overlay_cons _ _ _ _ ho]
        exact (St.put_put σ b _ _ c).symm
    · have ho' : o = cs.length := by omega
      subst ho'
      obtain ⟨w', h3, h4⟩ := run_storeMore (P := P) hp q (v :: vs) cvs i σ w cs h hg hq hsz hr hone
      refine ⟨w', h3, ?_⟩
      have : overlay cs cs.length (v :: vs) = cs ++ v :: vs := by simp [overlay]
      rw [this]; exact h4

theorem putGrow_ok (h : SR w0 μ σ w) {b o : Nat} {vs : List V} {cvs : List Value} {σ' : St} {p : Loc} (hp : μ b = some p) (hsz : p.off + o + vs.length ≤ p.size) (hr : RL μ vs cvs) (he : putGrow σ b o vs = some σ') :
    ∃ w', (storeCells ⟨p.blk, p.off + o, none⟩ cvs).run P w = .ok () w' ∧ SR w0 μ σ' w' ∧ Ext μ σ μ σ' := by
  unfold putGrow at he
  split at he
  · rename_i cs hg
    split at he
    · rename_i cs' hc
      split at he
      · rename_i hone
        simp at he; subst he
        obtain ⟨h1, h2⟩ := overG_spec _ _ _ _ hc
        subst h1
        obtain ⟨w', h3, h4⟩ := run_storeGrow (P := P) hp (p.off + o) vs cvs 0 o σ w cs h hg rfl h2 hsz hr hone
        exact ⟨w', h3, h4, Ext.put μ σ _ hp⟩
      · simp at he
    · simp at he
  · simp at he

theorem get_alloc_ne (σ : St) (a d : AObj) {c : Nat} (h : c ≠ σ.next) : (σ.alloc a).get c = (σ.alloc d).get c := by rw [St.get_alloc, St.get_alloc, if_neg h, if_neg h]

theorem size_info {t : TypeId} {n : Nat} (h : pt.size t = some n) : ∃ i, pt.types.get t = some i ∧ i.size = n := by
  unfold PT.size at h
  split at h
  · rename_i i hi; exact ⟨i, hi, Option.some.inj h⟩
  · cases h

theorem RL_nil_of_length {xs : List V} {l : List Value} (h : RL μ xs l) (h0 : xs.length = 0) : l = [] := by
  have := RL_length h
  exact List.length_eq_zero_iff.1 (by omega)

theorem storeCells_nil (a : Addr) : (storeCells a []).run P w = .ok () w := by simp [storeCells]

/-- An append that has room, whatever it adds. -/
theorem append_room (hpt : pt.Ok P) (h : SR w0 μ σ w) {argTypes : Array TypeId} {rt t e xt : TypeId} {d : TypeDesc} {n k : Nat} {i : TypeInfo} {base : Option Addr} {len cc : Nat} {cx : Value} {cs : List V}
    (h0 : argTypes[0]? = some t) (hu : pt.und t = some (.slice e)) (hn : pt.size e = some n) (hi : pt.types.get e = some i) (h1 : argTypes[1]? = some xt) (hd : pt.und xt = some d)
    (hroom : len + k ≤ cc) (hkb : k * i.bytes ≤ 1000000000) (hadd : Adds P pt w0 μ σ e n d cx k cs) :
    ∃ cvs : List Value, RL μ cs cvs ∧ ∀ (w' : World), (match base with | some a => (storeCells (a.add (len * n)) cvs).run P w = .ok () w' | none => w' = w) →
      (Builtin.append_ argTypes rt #[.slice base len cc, cx]).run P w = .ok (.slice base (len + k) cc) w' := by
  rcases run_adds (i := i) hpt hn hadd hkb with ⟨kk, j, rfl, rfl, wk, hk1, hk2, hz⟩ | ⟨hne, hl, hf⟩
  · obtain ⟨z, cvs, hz1, hr, hz2, hz3⟩ := hz w h
    refine ⟨cvs, hr, fun w' hw => ?_⟩
    unfold Builtin.append_
    simp only [h0, h1, List.getElem?_toArray, List.getElem?_cons_zero, List.getElem?_cons_succ, Sem.run_bind, run_und hpt hu w, run_size hpt hn w, run_und hpt hd w, Result.andThen_ok, Sem.run_pure, if_true, asInt, asIntOf, wk, Sem.run_ite, if_neg hk1, run_info hpt hi w, if_neg hk2, Int.toNat_natCast, if_pos hroom, Bool.not_true, Bool.false_eq_true, if_false]
    by_cases h00 : k * n = 0
    · have e0 := hz3 h00
      subst e0
      cases base with
      | none => simp only at hw; subst hw; simp [h00]
      | some a => simp only [storeCells_nil] at hw; cases hw; simp [h00, storeCells_nil]
    · cases base with
      | none => simp only at hw; subst hw; simp [h00, hz1]
      | some a => simp only at hw; simp [h00, hz1, hz2, hw]
  · obtain ⟨c2, hc2, hr2⟩ := hf w h
    refine ⟨c2, hr2, fun w' hw => ?_⟩
    unfold Builtin.append_
    simp only [h0, h1, List.getElem?_toArray, List.getElem?_cons_zero, List.getElem?_cons_succ, Sem.run_bind, run_und hpt hu w, run_size hpt hn w, run_und hpt hd w, Result.andThen_ok, Sem.run_pure]
    cases d <;> first | exact absurd rfl (hne _) | skip
    all_goals
      simp only [Bool.false_eq_true, if_false, hl, Result.andThen_ok, Sem.run_ite, if_pos hroom, Bool.not_false, if_true, Sem.run_bind, hc2]
      cases base with
      | none => simp only at hw; subst hw; simp
      | some a => simp only at hw; simp [hw]

theorem appendA_ok (hpt : pt.Ok P) (h : SR w0 μ σ w) {argTypes : Array TypeId} {s x v : V} {σ' : St} (he : appendA pt argTypes s x σ = some (v, σ')) {cs cx : Value} (hs : R μ s cs) (hx : R μ x cx) (rt : TypeId) :
    Yields P w0 μ σ w (Builtin.append_ argTypes rt #[cs, cx]) v σ' := by
  unfold appendA at he
  split at he
  · rename_i t h0
    split at he
    · rename_i e n hel
      obtain ⟨hu, hn⟩ := elem_ok hel
      split at he
      · rename_i add hadd
        obtain ⟨xt, d, h1, hd, ha, hlen⟩ := added_ok (w0 := w0) (P := P) hadd hn hx
        obtain ⟨i, hi, _⟩ := size_info hn
        split at he
        · cases he
          simp only [R] at hs; subst hs
          obtain ⟨cvs, hr, hrun⟩ := append_room (P := P) hpt h (base := none) (len := 0) (cc := 0) (rt := rt) h0 hu hn hi h1 hd (by omega) (by omega) ha
          exact ⟨_, w, μ, hrun w rfl, h, Ext.refl μ σ, rfl⟩
        · cases he
          rename_i b o len cap sz
          obtain ⟨ca, cc, e1, hl, hc, hp, pb, hpb0⟩ := hs
          subst e1
          obtain ⟨cvs, hr, hrun⟩ := append_room (P := P) hpt h (base := some ca) (len := len) (cc := cc) (rt := rt) h0 hu hn hi h1 hd (by omega) (by omega) ha
          have hnil : cvs = [] := RL_nil_of_length hr (by rw [hlen]; simp)
          subst hnil
          exact ⟨_, w, μ, hrun w (storeCells_nil _), h, Ext.refl μ σ, ca, cc, rfl, by omega, hc, hp, pb, hpb0⟩
        · cases he
      · rename_i k acs i' hadd hi'
        obtain ⟨xt, d, h1, hd, ha, hlen⟩ := added_ok (w0 := w0) (P := P) hadd hn hx
        have hi := hi'
        split at he
        · cases he
        · rename_i zz hz
          split at he
          · simp only [R] at hs; subst hs
            split at he
            · rename_i hb
              simp only [Bool.and_eq_true, Nat.ble_eq] at hb
              cases he
              obtain ⟨w', cap', β, size, h2, h3, h4, h5, h6⟩ := append_grow (P := P) hpt h (base := none) (len := 0) (cc := 0) (k := k + 1) (rt := rt) (old := []) h0 hu hn hi h1 hd (by omega) (by simpa using hb.1) (by omega) (by simpa using hb.2)
                (fun w hw => ⟨[], by simp [Builtin.firstCells], rfl⟩) hz ha (by simp) hlen
              simp only [Nat.zero_add, List.nil_append] at h2 h3 h4 h5
              exact ⟨_, w', _, h2, h4, h5, R_newSlice h3 h3 h6⟩
            · cases he
          · rename_i b o len cap sz
            have hsR := hs
            obtain ⟨ca, cc, e1, hl, hc, hp, pb, hpb0⟩ := hs
            subst e1
            split at he
            · rename_i hb
              simp only [Bool.and_eq_true, Nat.ble_eq, Nat.beq_eq] at hb
              obtain ⟨⟨hsz, hb1⟩, hb2⟩ := hb
              subst hsz
              have hkb : (k + 1) * i'.bytes ≤ 1000000000 := Nat.le_trans (Nat.mul_le_mul_right _ (by omega)) hb1
              split at he
              · rename_i old hold
                have hold' : ∀ w, SR w0 μ σ w → ∃ cvs : List Value, (Builtin.firstCells sz len (.slice (some ca) len cc)).run P w = .ok cvs.toArray w ∧ RL μ old cvs :=
                  fun w hw => firstCells_ok hw hsR hold (fun l hl => by simp [lenA] at hl; omega)
                have hol := readSlice_length hold
                have grow : ¬ len + (k + 1) ≤ cc → ∃ w' cap' β size, (Builtin.append_ argTypes rt #[.slice (some ca) len cc, cx]).run P w = .ok (.slice (some ⟨β, 0, none⟩) (len + (k + 1)) cap') w' ∧ len + (k + 1) ≤ cap' ∧
                    SR w0 (μ.add σ.next ⟨β, 0, size⟩) (σ.alloc (.cells false (old ++ acs))) w' ∧ Ext μ σ (μ.add σ.next ⟨β, 0, size⟩) (σ.alloc (.cells false (old ++ acs))) ∧ cap' * sz ≤ size :=
                  fun hroom => append_grow (P := P) hpt h (rt := rt) h0 hu hn hi h1 hd hroom hb1 hl hb2 hold' hz ha hol hlen
                split at he
                · rename_i c
                  have hcc := hc
                  simp only [Cap.ok] at hcc
                  split at he
                  · rename_i hroom
                    have hroom : len + (k + 1) ≤ c := by simpa using hroom
                    split at he
                    · rename_i σ₁ hput
                      cases he
                      obtain ⟨p, hpb, e2, hfit⟩ := hp (by omega)
                      subst e2
                      obtain ⟨cvs, hr, hrun⟩ := append_room (P := P) hpt h (base := some ⟨p.blk, p.off + o, none⟩) (len := len) (cc := cc) (rt := rt) h0 hu hn hi h1 hd (by omega) hkb ha
                      obtain ⟨w', h2, h3, h4⟩ := putCells_ok (P := P) h hpb hr hput
                      refine ⟨_, w', μ, hrun w' ?_, h3, h4, _, cc, rfl, by omega, hc, (fun _ => ⟨p, hpb, rfl, hfit⟩), p, hpb⟩
                      simp only [add_place, Nat.add_assoc]
                      exact h2
                    · cases he
                  · rename_i hroom
                    have hroom : ¬ len + (k + 1) ≤ c := fun hh => by rw [Nat.ble_eq_true_of_le hh] at hroom; cases hroom
                    cases he
                    obtain ⟨w', cap', β, size, h2, h3, h4, h5, h6⟩ := grow (by omega)
                    exact ⟨_, w', _, h2, h4, h5, R_newSlice h3 h3 h6⟩
                · rename_i c
                  have hcc := hc
                  simp only [Cap.ok] at hcc
                  split at he
                  · rename_i hroom
                    have hroom : len + (k + 1) ≤ c := by simpa using hroom
                    split at he
                    · rename_i σ₁ hput
                      cases he
                      obtain ⟨p, hpb, e2, hfit⟩ := hp (by omega)
                      subst e2
                      obtain ⟨cvs, hr, hrun⟩ := append_room (P := P) hpt h (base := some ⟨p.blk, p.off + o, none⟩) (len := len) (cc := cc) (rt := rt) h0 hu hn hi h1 hd (by omega) hkb ha
                      obtain ⟨w', h2, h3, h4⟩ := putCells_ok (P := P) h hpb hr hput
                      refine ⟨_, w', μ, hrun w' ?_, h3, h4, _, cc, rfl, by omega, hc, (fun _ => ⟨p, hpb, rfl, hfit⟩), p, hpb⟩
                      simp only [add_place, Nat.add_assoc]
                      exact h2
                    · cases he
                  · split at he
                    · rename_i lcs hg hone
                      cases he
                      have hbn : ∀ p, μ b = some p → b ≠ σ.next := fun p hp e => by
                        have := (h.lt b p hp).1
                        omega
                      by_cases hroom : len + (k + 1) ≤ cc
                      · obtain ⟨p, hpb, e2, hfit⟩ := hp (by omega)
                        subst e2
                        obtain ⟨O, hO, c, ety, fr, ho, hcs, hcells, hrw⟩ := h.obj b p _ hpb hg
                        obtain ⟨hfresh, hfr⟩ := hrw rfl
                        have hk := h.kill b
                        have hq : ({ blk := p.blk, off := p.off + o, size := p.size } : Loc).blk = p.blk := rfl
                        have hold2 : takeN (len * sz) (lcs.drop o) = some old := by
                          unfold readSlice at hold
                          cases len with
                          | zero => simp at hold; subst hold; simp [takeN]
                          | succ m => simpa [hg] using hold
                        have hle : μ.le (μ.add σ.next ⟨p.blk, p.off + o, p.size⟩) := Mu.le_add _ _ h.next_none
                        have hcells' : ∀ (j : Nat) (y : V), old[j]? = some y → ∃ cv, c[p.off + o + j]? = some cv ∧ R (μ.add σ.next ⟨p.blk, p.off + o, p.size⟩) y cv := by
                          intro j y hj
                          obtain ⟨e3, _⟩ := takeN_spec _ _ _ hold2
                          rw [e3, List.getElem?_take] at hj
                          split at hj
                          · rw [List.getElem?_drop] at hj
                            obtain ⟨cv, h5, h6⟩ := hcells _ _ hj
                            exact ⟨cv, by rw [← h5]; congr 1; omega, R_mono hle _ h6⟩
                          · cases hj
                        have hfree : ∀ c' r d', μ c' = some r → (σ.put b none).get c' = some d' → r.blk ≠ p.blk := by
                          intro c' r d' hc' hd' e
                          rw [St.get_put] at hd'
                          split at hd'
                          · cases hd'
                          · rename_i hne
                            exact h.inj b c' p r _ d' hpb hc' hg hd' rfl (fun e => hne e.symm) e.symm
                        obtain ⟨h2, h3⟩ := hk.over (a := .cells false old) (q := ⟨p.blk, p.off + o, p.size⟩) hO hfree ⟨c, ety, fr, ho, hcs, hcells', fun _ => ⟨hfresh, hfr⟩⟩
                        obtain ⟨cvs, hr, hrun⟩ := append_room (P := P) hpt h (base := some ⟨p.blk, p.off + o, none⟩) (len := len) (cc := cc) (rt := rt) h0 hu hn hi h1 hd hroom hkb ha
                        have hmul : (len + (k + 1)) * sz ≤ cc * sz := Nat.mul_le_mul_right _ hroom
                        have hadd2 : (len + (k + 1)) * sz = len * sz + (k + 1) * sz := Nat.add_mul _ _ _
                        obtain ⟨w', h7, h8⟩ := run_storeMore (P := P) (b := σ.next) (p := ⟨p.blk, p.off + o, p.size⟩) (Mu.add_same _ _ _) (p.off + (o + len * sz)) acs cvs 0 _ w old h2
                          (by rw [St.get_alloc]; simp) (by simp only []; rw [hol]; omega) (by simp only []; rw [hol, show acs.length = (k + 1) * sz from hlen]; omega) (RL_mono hle _ hr) hone
                        refine ⟨_, w', _, hrun w' ?_, h8.congr rfl (fun c' => ?_), ((Ext.kill μ σ b (by simp [hpb])).trans h3).trans ?_, _, cc, rfl, by omega, hroom, (fun _ => ⟨_, Mu.add_same _ _ _, by simp, ?_⟩), _, Mu.add_same _ _ _⟩
                        · simp only [add_place, Nat.add_assoc]; exact h7
                        · simp only [St.get_put, St.get_alloc, St.next_put]
                          split <;> rfl
                        · refine ⟨Mu.le_refl _, Nat.le_refl _, fun c' hc' hm => ⟨hm, ?_⟩⟩
                          have hne : c' ≠ σ.next := fun e => by subst e; simp at hm
                          exact get_alloc_ne (σ.put b none) _ _ hne
                        · simp only []; omega
                      · obtain ⟨w', cap', β, size, h2, h3, h4, h5, h6⟩ := grow hroom
                        refine ⟨_, w', _, h2, (h4.kill b).congr rfl (fun c' => ?_), ⟨h5.le, by simp, fun c' hc' hm => ⟨(h5.unm c' hc' hm).1, ?_⟩⟩, R_newSlice h3 h3 h6⟩
                        · have := hbn pb hpb0
                          simp only [St.get_put, St.get_alloc, St.next_put]
                          by_cases e1 : c' = b
                          · subst e1; simp [this]
                          · simp [e1]
                        · have hne : c' ≠ b := fun e => by subst e; rw [hpb0] at hm; cases hm
                          simp only [St.get_put, St.get_alloc, St.next_put, if_neg hne, if_neg (Nat.ne_of_lt hc')]
                    · cases he
              · cases he
            · cases he
          · cases he
      · cases he
    · cases he
  · cases he

end Go.AI

/- Soundness, part 7: copy, clear, conversions, len, cap, min, max; maps. -/
namespace Go.AI
variable {P : Program} {pt : PT} {w0 : W0} {μ : Mu} {σ : St} {w : World}

theorem min_nat (a b : Nat) : Nat.min a b = min a b := rfl

theorem copyA_ok (hpt : pt.Ok P) (h : SR w0 μ σ w) {argTypes : Array TypeId} {d x v : V} {σ' : St} (he : copyA pt argTypes d x σ = some (v, σ')) {cd cx : Value} (hd : R μ d cd) (hx : R μ x cx) (rt : TypeId) :
    Yields P w0 μ σ w (Builtin.copy_ argTypes rt #[cd, cx]) v σ' := by
  unfold copyA at he
  split at he
  · rename_i t h0
    split at he
    · rename_i e n hel
      obtain ⟨hu, hn⟩ := elem_ok hel
      split at he
      · rename_i dl xl hdl hxl
        have hlx := lenA_ok (P := P) hxl hx w
        have key : ∀ (base : Option Addr) (cc : Nat), cd = .slice base dl cc → ∀ (k : Nat) (cvs : List Value) (w' : World), min xl dl = k → (Builtin.firstCells n k cx).run P w = .ok cvs.toArray w →
            (match base with | some a => (storeCells a cvs).run P w = .ok () w' | none => w' = w) → (Builtin.copy_ argTypes rt #[cd, cx]).run P w = .ok (.int .i64 (Int.ofNat k)) w' := by
          intro base cc hcd k cvs w' hk hf hst
          subst hcd
          unfold Builtin.copy_
          simp only [h0, List.getElem?_toArray, List.getElem?_cons_zero, List.getElem?_cons_succ, Sem.run_bind, run_und hpt hu w, run_size hpt hn w, hlx, Result.andThen_ok, min_nat, hk, hf]
          cases base with
          | none => simp only at hst; subst hst; simp [goInt]
          | some a => simp only at hst; simp only [Sem.run_bind, hst, Result.andThen_ok]; simp [goInt]
        split at he
        · rename_i hmin
          have hzero : (Builtin.firstCells n 0 cx).run P w = .ok ([] : List Value).toArray w := by
            unfold lenA at hxl
            split at hxl <;> first | (cases hxl; done) | skip
            · simp only [R] at hx; subst hx; rfl
            · obtain ⟨ca, cc, e, _⟩ := hx; subst e; simp [Builtin.firstCells, loadCells, loadCellsFrom]
            · obtain ⟨ba, e, _⟩ := hx; subst e; simp [Builtin.firstCells, ByteArray.extract, ByteArray.copySlice]
          split at he
          · cases he
          · rename_i hns
            cases he
            cases d <;> simp [lenA] at hdl
            · exact absurd rfl (hns _)
            · simp only [R] at hd; subst hd
              subst hdl
              exact ⟨_, w, μ, key none 0 rfl 0 [] w hmin hzero rfl, h, Ext.refl μ σ, rfl⟩
            · obtain ⟨ca, cc, e, _⟩ := hd
              subst e; subst hdl
              exact ⟨_, w, μ, key (some ca) cc rfl 0 [] w hmin hzero (storeCells_nil _), h, Ext.refl μ σ, rfl⟩
        · rename_i k hmin
          split at he
          · rename_i cs b o len cap sz hr
            split at he
            · rename_i hsz
              have hsz := Nat.eq_of_beq_eq_true hsz
              subst hsz
              split at he
              · rename_i σ₁ hput
                cases he
                simp only [lenA] at hdl
                cases hdl
                obtain ⟨ca, cc, e2, hl, hc, ha, _⟩ := hd
                subst e2
                obtain ⟨p, hp, e3, hfit⟩ := ha (by omega)
                subst e3
                obtain ⟨cvs, h1, h2⟩ := firstCells_ok (P := P) h hx hr (fun l hl => by rw [hxl] at hl; cases hl; omega)
                have hcl := readSlice_length hr
                have hmul : (k + 1) * sz ≤ cc * sz := Nat.mul_le_mul_right _ (by omega)
                obtain ⟨w', h3, h4, h5⟩ := putGrow_ok (P := P) h hp (by omega) h2 hput
                exact ⟨_, w', μ, key (some ⟨p.blk, p.off + o, none⟩) cc rfl (k + 1) cvs w' hmin h1 h3, h4, h5, rfl⟩
              · cases he
            · cases he
          · cases he
      · cases he
    · cases he
  · cases he

theorem bytesOfCells_ok : ∀ {cs : List V} {l : List UInt8} {cvs : List Value}, bytesOfCells cs = some l → RL μ cs cvs →
    ∀ (msg : String) (s : ByteArray), ∃ out : ByteArray, out.data.toList = s.data.toList ++ l ∧
      (forIn (m := Sem) cvs s fun c s => do
        let .int .u8 n := c | stuck msg
        pure (ForInStep.yield (s.push (UInt8.ofNat n.toNat)))).run P w = .ok out w
  | [], _, _, h, hr, _, s => by
    simp only [bytesOfCells] at h; cases h
    simp only [RL] at hr; subst hr
    exact ⟨s, by simp, by simp⟩
  | v :: vs, l, _, h, hr, msg, s => by
    obtain ⟨y, ys, hy, hys, e⟩ := hr
    subst e
    unfold bytesOfCells at h
    split at h
    · rename_i heq; cases heq
    · rename_i n vs' heq
      cases heq
      split at h
      · rename_i r hr
        cases h
        simp only [R] at hy; subst hy
        obtain ⟨out, h1, h2⟩ := bytesOfCells_ok hr hys msg (s.push (UInt8.ofNat n.toNat))
        refine ⟨out, ?_, ?_⟩
        · rw [h1]; simp [ByteArray.push]
        · simp only [List.forIn_cons, Sem.run_bind, Sem.run_pure, Result.andThen_ok]
          exact h2
      · cases h
    · cases h

theorem run_bytesToString (h : SR w0 μ σ w) {x : V} {cs : List V} {l : List UInt8} {n : Nat} {cx : Value} (hns : ∀ s, x ≠ .str s) (hn : lenA x = some n) (hr : readSlice σ 1 n x = some cs) (hl : bytesOfCells cs = some l) (hx : R μ x cx) :
    ∃ ba : ByteArray, (Conv.bytesToString cx).run P w = .ok (.string ba) w ∧ ba.data.toList = l := by
  obtain ⟨cvs, h1, h2⟩ := firstCells_ok (P := P) h hx hr (fun l hl => by rw [hn] at hl; cases hl; exact Nat.le_refl _)
  cases x <;> simp [lenA] at hn
  · exact absurd rfl (hns _)
  · subst hn
    simp only [R] at hx; subst hx
    simp [readSlice] at hr; subst hr
    simp [bytesOfCells] at hl; subst hl
    exact ⟨.empty, rfl, rfl⟩
  · obtain ⟨ca, cc, e, _⟩ := hx
    subst e; subst hn
    obtain ⟨out, h3, h4⟩ := bytesOfCells_ok (P := P) (w := w) hl h2 _ ByteArray.empty
    refine ⟨out, ?_, by simpa using h3⟩
    simp only [Builtin.firstCells, Nat.mul_one] at h1
    unfold Conv.bytesToString
    simp only [Sem.run_bind, h1, Result.andThen_ok, List.forIn_toArray]
    erw [h4]
    rfl

theorem freeze_new (w : World) (c : Array Value) (e : TypeId) (n : Nat) :
    ({ w with heap := w.heap.push (.cells c e) } : World).freeze ⟨w.heap.size, n, none⟩ 1 = { w with heap := w.heap.push (.cells c e (n, n + 1)) } := by
  unfold World.freeze
  rw [if_neg (by omega)]
  simp only [World.mk.injEq, and_true]
  apply Array.ext_getElem?
  intro i
  rw [Array.getElem?_modify]
  by_cases hi : w.heap.size = i
  · subst hi
    simp
  · rw [if_neg hi, Array.getElem?_push, Array.getElem?_push]
    rw [if_neg (fun e => hi e.symm), if_neg (fun e => hi e.symm)]

theorem RL_bytes (μ : Mu) (l : List UInt8) : RL μ (l.map fun c => .int .u8 (Int.ofNat c.toNat)) (l.map fun b => .int .u8 b.toNat) := by
  induction l with
  | nil => rfl
  | cons a l ih => exact ⟨_, _, rfl, ih, rfl⟩

theorem stringToBytes_ok (h : SR w0 μ σ w) (ba : ByteArray) (e : TypeId) :
    Yields P w0 μ σ w (Conv.stringToBytes e ba) (.slice σ.next 0 ba.data.toList.length (.least ba.data.toList.length) 1) (σ.alloc (.cells true (ba.data.toList.map fun c => .int .u8 (Int.ofNat c.toNat)))) := by
  have hq : Question.forced (.appendCap ba.size 0 e) = false := rfl
  have hcut : Question.cut (.appendCap ba.size 0 e) (w.tape w.drawn (.appendCap ba.size 0 e)) = ba.size + w.tape w.drawn (.appendCap ba.size 0 e) % (2 ^ 63 - ba.size) := rfl
  generalize hcap : ba.size + w.tape w.drawn (.appendCap ba.size 0 e) % (2 ^ 63 - ba.size) = cap at hcut
  have hge : ba.size ≤ cap := by omega
  have hw := h.drew (w.drawn + 1)
  generalize hc : (ba.data.map fun b => (.int .u8 b.toNat : Value)) ++ Array.replicate (cap - ba.size) (.int .u8 0) = c
  have hsz : c.size = cap := by
    rw [← hc]
    have : ba.data.size = ba.size := rfl
    simp; omega
  have hlist : c.toList = (ba.data.toList.map fun b => (.int .u8 b.toNat : Value)) ++ List.replicate (cap - ba.size) (.int .u8 0) := by rw [← hc]; simp
  have hrl := RL_bytes μ ba.data.toList
  have hm := μ.le_add (⟨w.heap.size, 0, cap⟩ : Loc) h.next_none
  have hobj : RObj w0 (μ.add σ.next ⟨w.heap.size, 0, cap⟩) ⟨w.heap.size, 0, cap⟩ (.cells true (ba.data.toList.map fun c => .int .u8 (Int.ofNat c.toNat))) (.cells c e (cap, cap + 1)) := by
    refine ⟨c, e, (cap, cap + 1), rfl, hsz, fun i v hv => ?_, fun h => by cases h⟩
    obtain ⟨cv, h1, h2⟩ := RL_get hrl i v hv
    refine ⟨cv, ?_, R_mono hm v h2⟩
    have hlt : i < (ba.data.toList.map fun b => (.int .u8 b.toNat : Value)).length := by
      rcases Nat.lt_or_ge i (ba.data.toList.map fun b => (.int .u8 b.toNat : Value)).length with hh | hh
      · exact hh
      · rw [List.getElem?_eq_none hh] at h1; cases h1
    rw [← Array.getElem?_toList, hlist, Nat.zero_add, List.getElem?_append_left hlt]
    exact h1
  obtain ⟨h1, h2⟩ := hw.alloc (O := .cells c e (cap, cap + 1)) (p := ⟨w.heap.size, 0, cap⟩) rfl hobj
  refine ⟨_, _, _, ?_, h1, h2, R_newSlice (by show ba.data.size ≤ cap; exact hge) (by simp only [Cap.ok]; exact hge) (Nat.le_of_eq (Nat.mul_one cap))⟩
  unfold Conv.stringToBytes
  simp only [Sem.run_bind, run_choose, hq, Bool.false_eq_true, if_false, hcut, Result.andThen_ok, hc]
  simp only [newRow, Sem.run_bind, run_newObj, Result.andThen_ok, Sem.run_pure, markStringish, run_shape, World.shape?]
  simp only [Array.getElem?_push_size]
  rw [run_freeze]
  have := freeze_new { w with drawn := w.drawn + 1 } c e cap
  simp only [Result.andThen_ok, hsz]
  rw [this]
  rfl

theorem convA_ok (hpt : pt.Ok P) (h : SR w0 μ σ w) {src dst : TypeId} {x v : V} {σ' : St} (he : convA pt src dst x σ = some (v, σ')) {cx : Value} (hx : R μ x cx) :
    Yields P w0 μ σ w (convert src dst cx) v σ' := by
  unfold convA at he
  split at he
  · rename_i d0 k k2 n hs hd
    cases he
    simp only [R] at hx; subst hx
    refine ⟨.int k (k.wrap n), w, μ, ?_, h, Ext.refl μ σ, by simp [R]⟩
    simp only [convert, Sem.run_bind, run_und hpt hs w, run_und hpt hd w, Result.andThen_ok]
    rfl
  · rename_i d0 s hs hd
    cases he
    obtain ⟨ba, e, e2⟩ := hx
    subst e
    refine ⟨.string ba, w, μ, ?_, h, Ext.refl μ σ, ba, rfl, e2⟩
    simp only [convert, Sem.run_bind, run_und hpt hs w, run_und hpt hd w, Result.andThen_ok]
    cases d0 <;> rfl
  · rename_i d0 e s hs hd
    split at he
    · rename_i hu8
      cases he
      obtain ⟨ba, e1, e2⟩ := hx
      subst e1; subst e2
      obtain ⟨cv, w', μ', h1, h2, h3, h4⟩ := stringToBytes_ok (P := P) h ba e
      refine ⟨cv, w', μ', ?_, h2, h3, h4⟩
      rw [← h1]
      obtain ⟨msg, hrun⟩ : ∃ msg : String, (convert src dst (.string ba)).run P w = (do match ← underlying e with | .int .u8 => Conv.stringToBytes e ba | .int .i32 => Conv.stringToRunes e ba | _ => stuck msg : Sem Value).run P w := by
        simp only [convert, Sem.run_bind, run_und hpt hs w, run_und hpt hd w, Result.andThen_ok]
        cases d0 <;> exact ⟨_, rfl⟩
      rw [hrun, Sem.run_bind, run_und hpt hu8 w]
      rfl
    · cases he
  · rename_i e hs hd _
    unfold convStr at he
    split at he
    · rename_i hu8
      have hrun : ∀ (a : Option Addr) (l c : Nat), (convert src dst (.slice a l c)).run P w = (Conv.bytesToString (.slice a l c)).run P w := by
        intro a l c
        obtain ⟨msg, this⟩ : ∃ msg : String, (convert src dst (.slice a l c)).run P w = (do match ← underlying e with | .int .u8 => Conv.bytesToString (.slice a l c) | .int .i32 => Conv.runesToString (.slice a l c) | _ => stuck msg : Sem Value).run P w := by
          simp only [convert, Sem.run_bind, run_und hpt hs w, run_und hpt hd w, Result.andThen_ok]
          exact ⟨_, rfl⟩
        rw [this, Sem.run_bind, run_und hpt hu8 w]
        rfl
      split at he
      · cases he
        simp only [R] at hx; subst hx
        exact ⟨.string .empty, w, μ, hrun _ _ _, h, Ext.refl μ σ, .empty, rfl, rfl⟩
      · rename_i b o n c sz _
        split at he
        · rename_i cs hr
          split at he
          · rename_i l hl
            cases he
            obtain ⟨ba, h1, h2⟩ := run_bytesToString (P := P) h (x := .slice b o n c sz) (fun s e => by cases e) rfl hr hl hx
            obtain ⟨ca, cc, e5, _⟩ := hx
            subst e5
            exact ⟨.string ba, w, μ, (hrun _ _ _).trans h1, h, Ext.refl μ σ, ba, rfl, h2⟩
          · cases he
        · cases he
      · cases he
    · cases he
  · cases he

end Go.AI

/- Soundness, part 8: maps, strings' iterators, and what is left of the operations. -/
namespace Go.AI
variable {P : Program} {pt : PT} {w0 : W0} {μ : Mu} {σ : St} {w : World}

def notCells : Obj → Bool
  | .cells .. => false
  | _ => true

theorem run_getObj {r : Nat} {O : Obj} (hO : w.heap[r]? = some O) (hn : notCells O = true) : (getObj r).run P w = .ok O w := by
  unfold getObj
  simp only [Sem.run, hO]
  cases O <;> first | rfl | simp [notCells] at hn

/-- An object that is no row of cells is changed, on both sides. -/
theorem SR.setObj (h : SR w0 μ σ w) {b : Nat} {p : Loc} {a a' : AObj} {O O' : Obj} (hp : μ b = some p) (hg : σ.get b = some a) (hro : a.ro = false) (hfresh : w0.may p.blk)
    (hO : w.heap[p.blk]? = some O) (hn : notCells O = true) (hR : RObj w0 μ p a' O') :
    ∃ w', (Go.setObj p.blk O').run P w = .ok () w' ∧ SR w0 μ (σ.put b (some a')) w' ∧ Ext μ σ μ (σ.put b (some a')) := by
  have hlt : p.blk < w.heap.size := (h.lt b p hp).2
  refine ⟨{ w with heap := w.heap.setIfInBounds p.blk O' }, ?_, ?_, Ext.put μ σ _ hp⟩
  · unfold Go.setObj
    simp only [Sem.run, hO]
    cases O <;> first | rfl | simp [notCells] at hn
  · exact h.change hp hg hro hfresh (by simp) (fun k hk => by simp only []; rw [Array.getElem?_setIfInBounds_ne (fun e => hk e.symm)]) rfl rfl rfl (by simp [hlt]) hR

theorem SR.mapAt (h : SR w0 μ σ w) {b : Nat} {p : Loc} {es : List AEntry} {clock : Nat} (hp : μ b = some p) (hg : σ.get b = some (.map es clock)) :
    ∃ ces : Array MapEntry, w.heap[p.blk]? = some (.map ces clock) ∧ REs μ es ces.toList ∧ w0.may p.blk ∧ ∀ (P : Program), (getObj p.blk).run P w = .ok (.map ces clock) w := by
  obtain ⟨O, hO, ces, e, hr, hf⟩ := h.obj b p _ hp hg
  subst e
  exact ⟨ces, hO, hr, hf, fun P => run_getObj hO rfl⟩

/-! ### Keys -/

theorem sameBits_int (n : Nat) (k : IntKind) (a : Int) : Instr.sameBits n (.int k a) (.int k a) = true := by cases n <;> simp [Instr.sameBits]
theorem sameBits_str (n : Nat) (a b : ByteArray) (h : (a == b) = true) : Instr.sameBits n (.string a) (.string b) = true := by cases n <;> simpa [Instr.sameBits] using h


theorem sameKey_ok {k e : V} {r : Bool} (h : sameKey k e = some r) {ck ce : Value} (hk : R μ k ck) (he : R μ e ce) {d : TypeDesc} (hd : keyKind d k = true) :
    Instr.sameNow d ck ce = some r ∧ (r = true → Instr.sameBits 10000 ce ck = true) := by
  unfold sameKey at h
  split at h
  · rename_i k1 a k2 b
    simp only [R] at hk he; subst hk; subst he
    split at h
    · rename_i hkk
      subst hkk
      cases h
      cases d <;> simp [keyKind] at hd
      simp only [Instr.sameNow, if_true, zeq_eq]
      refine ⟨by congr 1, fun hr => ?_⟩
      have : a = b := by simpa using hr
      subst this
      exact sameBits_int _ _ _
    · cases h
  · rename_i a b
    obtain ⟨ba, e1, e2⟩ := hk
    obtain ⟨bb, e3, e4⟩ := he
    subst e1; subst e2; subst e3; subst e4
    cases h
    cases d <;> simp [keyKind] at hd
    simp only [Instr.sameNow, str_beq]
    refine ⟨trivial, fun hr => sameBits_str _ _ _ ?_⟩
    rw [str_beq]
    rw [eqBytes_iff, beq_iff_eq] at hr ⊢
    exact hr.symm
  · cases h

theorem findNow_ok {d : TypeDesc} {k : V} {ck : Value} (hk : R μ k ck) (hd : keyKind d k = true) : ∀ {es : List AEntry} {ces : List MapEntry} {r : Option Nat}, REs μ es ces → findA k es = some r → ∀ i,
    match r with
    | none => Instr.findNow d ck ces i = some none
    | some j => ∃ c e, ces[j]? = some c ∧ es[j]? = some e ∧ Instr.findNow d ck ces i = some (some (i + j, c.val)) ∧ sameKey k e.key = some true := by
  intro es ces r hr
  induction hr generalizing r with
  | nil => intro h i; simp only [findA] at h; cases h; rfl
  | cons hke hve hb hes ih =>
    rename_i e c es ces
    intro h i
    simp only [findA] at h
    split at h
    · rename_i hs
      cases h
      obtain ⟨h1, _⟩ := sameKey_ok hs hk hke hd
      exact ⟨c, e, rfl, rfl, by simp [Instr.findNow, h1], hs⟩
    · rename_i hs
      obtain ⟨h1, _⟩ := sameKey_ok hs hk hke hd
      split at h
      · rename_i j hj
        cases h
        obtain ⟨c', e', h2, h3, h4, h5⟩ := ih hj (i + 1)
        refine ⟨c', e', by simpa using h2, by simpa using h3, ?_, h5⟩
        simp only [Instr.findNow, h1, h4]
        rw [show i + 1 + j = i + (j + 1) by omega]
      · rename_i r' hj
        cases r with
        | none =>
          have := ih h (i + 1)
          simp only [Instr.findNow, h1]
          exact this
        | some j => exact absurd h (hj j)
    · cases h

/-- The conditions on a map's key, and what looking it up comes to. -/
theorem run_findKey (hpt : pt.Ok P) {kt : TypeId} {k : V} {ck : Value} (hk : R μ k ck) (hok : keyOk pt kt k = true) {es : List AEntry} {ces : List MapEntry} {r : Option Nat} (hr : REs μ es ces) (hf : findA k es = some r) (w : World) :
    (∀ b, (Instr.checkKey b 10000 kt ck).run P w = .ok () w) ∧
    match r with
    | none => (Instr.findKey kt ck ces).run P w = .ok none w
    | some j => ∃ c e, ces[j]? = some c ∧ es[j]? = some e ∧ (Instr.findKey kt ck ces).run P w = .ok (some (j, c.val)) w ∧ sameKey k e.key = some true := by
  unfold keyOk at hok
  split at hok
  · rename_i d hd
    have hrun := run_und hpt hd w
    refine ⟨fun b => ?_, ?_⟩
    · have : ∀ n, (Instr.checkKey b (n + 1) kt ck).run P w = .ok () w := by
        intro n
        simp only [Instr.checkKey, Sem.run_bind, hrun, Result.andThen_ok]
        cases d <;> cases k <;> simp [keyKind] at hok
        · simp only [R] at hk; subst hk; rfl
        · obtain ⟨ba, e1, e2⟩ := hk; subst e1; rfl
      exact this 9999
    · have := findNow_ok hk hok hr hf 0
      cases r with
      | none => simp only at this ⊢; simp only [Instr.findKey, Sem.run_bind, hrun, Result.andThen_ok, this]; rfl
      | some j =>
        simp only at this ⊢
        obtain ⟨c, e, h1, h2, h3, h4⟩ := this
        refine ⟨c, e, h1, h2, ?_, h4⟩
        simp only [Instr.findKey, Sem.run_bind, hrun, Result.andThen_ok, h3, Nat.zero_add]
        rfl
  · cases hok

theorem mapOf_ok {t k e : TypeId} (h : pt.mapOf t = some (k, e)) : pt.und t = some (.map k e) := by
  unfold PT.mapOf at h
  split at h
  · rename_i k' e' hu; cases h; exact hu
  · cases h

theorem REs_get {es : List AEntry} {ces : List MapEntry} (h : REs μ es ces) : ∀ (i : Nat) (e : AEntry) (c : MapEntry), es[i]? = some e → ces[i]? = some c → R μ e.key c.key ∧ R μ e.val c.val ∧ c.born = e.born := by
  induction h with
  | nil => intro i e c h; simp at h
  | cons hk hv hb _ ih =>
    intro i e c h1 h2
    cases i with
    | zero => simp at h1 h2; subst h1; subst h2; exact ⟨hk, hv, hb⟩
    | succ i => exact ih i e c (by simpa using h1) (by simpa using h2)

theorem REs_length {es : List AEntry} {ces : List MapEntry} (h : REs μ es ces) : ces.length = es.length := by
  induction h with
  | nil => rfl
  | cons _ _ _ _ ih => simp [ih]

theorem REs_set {es : List AEntry} {ces : List MapEntry} (h : REs μ es ces) : ∀ (i : Nat) (e : AEntry) (c : MapEntry), R μ e.key c.key → R μ e.val c.val → c.born = e.born → REs μ (es.set i e) (ces.set i c) := by
  induction h with
  | nil => intro i e c _ _ _; exact .nil
  | cons hk hv hb hes ih =>
    intro i e c h1 h2 h3
    cases i with
    | zero => exact .cons h1 h2 h3 hes
    | succ i => exact .cons hk hv hb (ih i e c h1 h2 h3)

theorem REs_append {es : List AEntry} {ces : List MapEntry} (h : REs μ es ces) {e : AEntry} {c : MapEntry} (h1 : R μ e.key c.key) (h2 : R μ e.val c.val) (h3 : c.born = e.born) : REs μ (es ++ [e]) (ces ++ [c]) := by
  induction h with
  | nil => exact .cons h1 h2 h3 .nil
  | cons hk hv hb _ ih => exact .cons hk hv hb ih

theorem REs_erase {es : List AEntry} {ces : List MapEntry} (h : REs μ es ces) : ∀ i, REs μ (es.eraseIdx i) (ces.eraseIdx i) := by
  induction h with
  | nil => intro i; exact .nil
  | cons hk hv hb hes ih =>
    intro i
    cases i with
    | zero => exact hes
    | succ i => exact .cons hk hv hb (ih i)

theorem withOk_ok {ok : Bool} {v : V} {b : Bool} {cv : Value} (h : R μ v cv) : R μ (withOk ok v b) (if ok then .tuple #[cv, .bool b] else cv) := by
  cases ok
  · exact h
  · exact ⟨_, ⟨_, _, h, ⟨_, _, rfl, rfl, rfl⟩, rfl⟩, rfl⟩

theorem lookIn_ok (hpt : pt.Ok P) {kt et : TypeId} {k v : V} {ok : Bool} {ck : Value} (hk : R μ k ck) (hok : keyOk pt kt k = true) {es : List AEntry} {ces : Array MapEntry} (hr : REs μ es ces.toList) (hh : lookIn pt et k es ok = some v) (w : World) :
    (∀ b, (Instr.checkKey b 10000 kt ck).run P w = .ok () w) ∧
    ∃ (f : Option (Nat × Value)) (cv : Value) (b : Bool), (Instr.findKey kt ck ces.toList).run P w = .ok f w ∧ R μ v (if ok then .tuple #[cv, .bool b] else cv) ∧
      ((∃ i, f = some (i, cv) ∧ b = true) ∨ (f = none ∧ b = false ∧ (zeroValue et).run P w = .ok cv w)) := by
  unfold lookIn at hh
  split at hh
  · rename_i i hf
    obtain ⟨hc, c, e, h1, h2, h3, h4⟩ := run_findKey (P := P) hpt hk hok hr hf w
    rw [h2] at hh
    simp only at hh
    cases hh
    obtain ⟨_, hv, _⟩ := REs_get hr i e c h2 h1
    exact ⟨hc, _, c.val, true, h3, withOk_ok hv, .inl ⟨i, rfl, rfl⟩⟩
  · rename_i hf
    obtain ⟨hc, h3⟩ := run_findKey (P := P) hpt hk hok hr hf w
    split at hh
    · rename_i z hz
      obtain ⟨cz, h5, h6⟩ := run_zero hpt hz w
      cases hh
      exact ⟨hc, _, cz, false, h3, withOk_ok (h6 μ), .inr ⟨rfl, rfl, h5⟩⟩
    · cases hh
  · cases hh

theorem lookupA_ok (hpt : pt.Ok P) (h : SR w0 μ σ w) {t : TypeId} {m k v : V} {ok : Bool} (he : lookupA pt t σ m k ok = some v) {cm ck : Value} (hm : R μ m cm) (hk : R μ k ck) :
    ∃ cv, (Instr.lookup t cm ck ok).run P w = .ok cv w ∧ R μ v cv := by
  unfold lookupA at he
  split at he
  · rename_i kt et hmo
    have hu := mapOf_ok hmo
    split at he
    · rename_i hok
      split at he
      · rename_i es hes
        have key : ∃ ces : Array MapEntry, REs μ es ces.toList ∧ ((cm = .map none ∧ ces = #[]) ∨ ∃ r clock, cm = .map (some r) ∧ (getObj r).run P w = .ok (.map ces clock) w) := by
          unfold entriesOf at hes
          split at hes
          · cases hes
            simp only [R] at hm
            exact ⟨#[], .nil, .inl ⟨hm, rfl⟩⟩
          · rename_i b
            obtain ⟨p, hp, e⟩ := hm
            split at hes
            · rename_i es' clock hg
              cases hes
              obtain ⟨ces, hO, hr, hf, hget⟩ := h.mapAt hp hg
              exact ⟨ces, hr, .inr ⟨p.blk, clock, e, hget P⟩⟩
            · cases hes
          · cases hes
        obtain ⟨ces, hr, hcm⟩ := key
        obtain ⟨hc, f, cv, b, h1, h2, h3⟩ := lookIn_ok (P := P) hpt hk hok hr he w
        refine ⟨_, ?_, h2⟩
        have tail : ∀ (f' : Option (Nat × Value)), f' = f → ((match f' with
            | some (_, v) => do let x ← pure (v, true); pure (if ok = true then Value.tuple #[x.1, .bool x.2] else x.1)
            | none => do let z ← zeroValue et; let x ← pure (z, false); pure (if ok = true then Value.tuple #[x.1, .bool x.2] else x.1)) : Sem Value).run P w = .ok (if ok then .tuple #[cv, .bool b] else cv) w := by
          intro f' e
          subst e
          rcases h3 with ⟨i, rfl, rfl⟩ | ⟨rfl, rfl, hz⟩
          · rfl
          · simp only [Sem.run_bind, hz, Result.andThen_ok]; rfl
        rcases hcm with ⟨rfl, rfl⟩ | ⟨r, clock, rfl, hget⟩
        · simp only [Instr.lookup, Sem.run_bind, run_und hpt hu w, Result.andThen_ok, Sem.run_pure, hc]
          have e0 : (#[] : Array MapEntry).toList = [] := rfl
          rw [e0] at h1
          simp only [h1, Result.andThen_ok]
          exact tail f rfl
        · simp only [Instr.lookup, Sem.run_bind, run_und hpt hu w, Result.andThen_ok, Sem.run_pure, hc, hget, h1]
          exact tail f rfl
      · cases he
    · cases he
  · cases he

theorem modify_toList {α : Type} (a : Array α) (i : Nat) (f : α → α) (c : α) (h : a.toList[i]? = some c) : (a.modify i f).toList = a.toList.set i (f c) := by
  apply List.ext_getElem?
  intro j
  rw [Array.getElem?_toList, Array.getElem?_modify, List.getElem?_set]
  by_cases hij : i = j
  · subst hij
    have hlt : i < a.toList.length := by
      rcases Nat.lt_or_ge i a.toList.length with hh | hh
      · exact hh
      · rw [List.getElem?_eq_none hh] at h; cases h
    rw [if_pos rfl, if_pos rfl, if_pos hlt, ← Array.getElem?_toList, h]
    rfl
  · rw [if_neg hij, if_neg hij, Array.getElem?_toList]

theorem run_keyThatStays (old new : Value) (h : Instr.sameBits 10000 old new = true) (w : World) : (Instr.keyThatStays old new).run P w = .ok new w := by
  unfold Instr.keyThatStays
  rw [if_pos h]
  rfl

theorem updateA_ok (hpt : pt.Ok P) (h : SR w0 μ σ w) {t : TypeId} {m k v : V} {σ' : St} (he : updateA pt t σ m k v = some σ') {cm ck cv : Value} (hm : R μ m cm) (hk : R μ k ck) (hv : R μ v cv) :
    ∃ w', (Instr.mapUpdate t cm ck cv).run P w = .ok () w' ∧ SR w0 μ σ' w' ∧ Ext μ σ μ σ' := by
  unfold updateA at he
  split at he
  · rename_i kt et b hmo
    have hu := mapOf_ok hmo
    obtain ⟨p, hp, e⟩ := hm
    subst e
    split at he
    · rename_i es clock hok hg
      obtain ⟨ces, hO, hr, hf, hget⟩ := h.mapAt hp hg
      split at he
      · rename_i i hfi
        obtain ⟨hc, c, e, h1, h2, h3, h4⟩ := run_findKey (P := P) hpt hk hok hr hfi w
        rw [h2] at he
        simp only [setS_eq] at he
        obtain ⟨hke, _, hbe⟩ := REs_get hr i e c h2 h1
        have hne : es.set i { e with key := k, val := v } ≠ [] := by
          intro hh
          have := congrArg List.length hh
          simp at this
          subst this; simp at h2
        split at he
        · rename_i hh; exact absurd hh hne
        · rename_i x xs hh
          cases he
          rw [← hh]
          have hd : ∃ d, pt.und kt = some d ∧ keyKind d k = true := by
            unfold keyOk at hok
            split at hok
            · rename_i d hd; exact ⟨d, hd, hok⟩
            · cases hok
          obtain ⟨d, _, hkk⟩ := hd
          obtain ⟨_, hsb⟩ := sameKey_ok h4 hk hke hkk
          obtain ⟨w', h5, h6, h7⟩ := h.setObj (P := P) hp hg rfl hf hO rfl (a' := .map (es.set i { e with key := k, val := v }) clock) (O' := .map (ces.modify i fun e => { e with key := ck, val := cv }) clock)
            ⟨_, rfl, by rw [modify_toList _ _ _ _ h1]; exact REs_set hr i _ _ hk hv hbe, hf⟩
          refine ⟨w', ?_, h6, h7⟩
          have hci : ces[i]? = some c := by simpa using h1
          simp only [Instr.mapUpdate, Sem.run_bind, run_und hpt hu w, Result.andThen_ok, hget P, hc, h3, hci, Option.map_some, Option.getD_some, run_keyThatStays _ _ (hsb rfl), h5]
      · rename_i hfi
        obtain ⟨hc, h3⟩ := run_findKey (P := P) hpt hk hok hr hfi w
        cases he
        obtain ⟨w', h5, h6, h7⟩ := h.setObj (P := P) hp hg rfl hf hO rfl (a' := .map (es ++ [{ key := k, val := v, born := clock }]) (clock + 1)) (O' := .map (ces.push { key := ck, val := cv, born := clock }) (clock + 1))
          ⟨_, rfl, by rw [Array.toList_push]; exact REs_append hr hk hv rfl, hf⟩
        refine ⟨w', ?_, h6, h7⟩
        simp only [Instr.mapUpdate, Sem.run_bind, run_und hpt hu w, Result.andThen_ok, hget P, hc, h3, h5]
      · cases he
    · cases he
  · cases he

theorem mapEntryA_ok (hpt : pt.Ok P) (h : SR w0 μ σ w) {t : TypeId} {m k v : V} {σ' : St} (he : mapEntryA pt t σ m k = some (v, σ')) {cm ck : Value} (hm : R μ m cm) (hk : R μ k ck) :
    Yields P w0 μ σ w (Instr.mapEntry t cm ck) v σ' := by
  unfold mapEntryA at he
  split at he
  · rename_i kt et b hmo
    have hu := mapOf_ok hmo
    obtain ⟨p, hp, e⟩ := hm
    subst e
    split at he
    · rename_i es clock hok hg
      obtain ⟨ces, hO, hr, hf, hget⟩ := h.mapAt hp hg
      split at he
      · rename_i i hfi
        obtain ⟨hc, c, e, h1, h2, h3, h4⟩ := run_findKey (P := P) hpt hk hok hr hfi w
        rw [h2] at he
        simp only [setS_eq] at he
        obtain ⟨hke, hve, hbe⟩ := REs_get hr i e c h2 h1
        cases he
        have hd : ∃ d, pt.und kt = some d ∧ keyKind d k = true := by
          unfold keyOk at hok
          split at hok
          · rename_i d hd; exact ⟨d, hd, hok⟩
          · cases hok
        obtain ⟨d, _, hkk⟩ := hd
        obtain ⟨_, hsb⟩ := sameKey_ok h4 hk hke hkk
        obtain ⟨w', h5, h6, h7⟩ := h.setObj (P := P) hp hg rfl hf hO rfl (a' := .map (es.set i { e with key := k }) clock) (O' := .map (ces.modify i fun e => { e with key := ck }) clock)
          ⟨_, rfl, by rw [modify_toList _ _ _ _ h1]; exact REs_set hr i _ _ hk hve hbe, hf⟩
        refine ⟨_, w', μ, ?_, h6, h7, [c.val, goInt e.born], ⟨_, _, hve, ⟨_, _, rfl, rfl, rfl⟩, rfl⟩, rfl⟩
        have hci : ces[i]? = some c := by simpa using h1
        simp only [Instr.mapEntry, Sem.run_bind, run_und hpt hu w, Result.andThen_ok, hget P, hc, h3, hci, Option.map_some, Option.getD_some, run_keyThatStays _ _ (hsb rfl), h5, hbe]
        rfl
      · rename_i hfi
        obtain ⟨hc, h3⟩ := run_findKey (P := P) hpt hk hok hr hfi w
        split at he
        · rename_i z hz
          cases he
          obtain ⟨cz, h8, h9⟩ := run_zero hpt hz w
          obtain ⟨w', h5, h6, h7⟩ := h.setObj (P := P) hp hg rfl hf hO rfl (a' := .map (es ++ [{ key := k, val := z, born := clock }]) (clock + 1)) (O' := .map (ces.push { key := ck, val := cz, born := clock }) (clock + 1))
            ⟨_, rfl, by rw [Array.toList_push]; exact REs_append hr hk (h9 μ) rfl, hf⟩
          refine ⟨_, w', μ, ?_, h6, h7, [cz, goInt clock], ⟨_, _, h9 μ, ⟨_, _, rfl, rfl, rfl⟩, rfl⟩, rfl⟩
          simp only [Instr.mapEntry, Sem.run_bind, run_und hpt hu w, Result.andThen_ok, hget P, hc, h3, h8, h5]
          rfl
        · cases he
      · cases he
    · cases he
  · cases he

end Go.AI

/- Soundness, part 9: the operations that are left. -/
namespace Go.AI
variable {P : Program} {pt : PT} {w0 : W0} {μ : Mu} {σ : St} {w : World}

theorem findBorn_ok {n : Nat} : ∀ {es : List AEntry} {ces : List MapEntry} {i : Nat}, REs μ es ces → findBorn n es = some i → ces.findIdx? (fun e => (e.born : Int) == (Int.ofNat n)) = some i ∧ ∃ c e, ces[i]? = some c ∧ es[i]? = some e := by
  intro es ces i hr
  induction hr generalizing i with
  | nil => intro h; cases h
  | cons hk hv hb hes ih =>
    rename_i e c es ces
    intro h
    simp only [findBorn] at h
    split at h
    · rename_i hbb
      cases h
      have hbb := Nat.eq_of_beq_eq_true hbb
      refine ⟨?_, c, e, rfl, rfl⟩
      rw [List.findIdx?_cons, if_pos (by simp [hb, hbb])]
    · rename_i hbb
      have hne : e.born ≠ n := fun e0 => by rw [e0] at hbb; simp at hbb
      split at h
      · rename_i j hj
        cases h
        obtain ⟨h1, c', e', h2, h3⟩ := ih hj
        refine ⟨?_, c', e', by simpa using h2, by simpa using h3⟩
        rw [List.findIdx?_cons, if_neg (by simp [hb]; omega), h1]
        rfl
      · cases h

theorem entryStoreA_ok (h : SR w0 μ σ w) {m s v : V} {σ' : St} (he : entryStoreA σ m s v = some σ') {cm cs cv : Value} (hm : R μ m cm) (hs : R μ s cs) (hv : R μ v cv) (t : TypeId) :
    ∃ w', (Instr.entryStore t cm cs cv).run P w = .ok () w' ∧ SR w0 μ σ' w' ∧ Ext μ σ μ σ' := by
  unfold entryStoreA at he
  split at he
  · rename_i b n hn
    obtain ⟨p, hp, e⟩ := hm
    subst e
    obtain ⟨k, e⟩ := natOf_ok hn hs
    subst e
    split at he
    · rename_i es clock hg
      obtain ⟨ces, hO, hr, hf, hget⟩ := h.mapAt hp hg
      split at he
      · rename_i i hi
        obtain ⟨h1, c, e, h2, h3⟩ := findBorn_ok hr hi
        rw [h3] at he
        simp only [setS_eq] at he
        cases he
        obtain ⟨hke, hve, hbe⟩ := REs_get hr i e c h3 h2
        obtain ⟨w', h5, h6, h7⟩ := h.setObj (P := P) hp hg rfl hf hO rfl (a' := .map (es.set i { e with val := v }) clock) (O' := .map (ces.modify i fun e => { e with val := cv }) clock)
          ⟨_, rfl, by rw [modify_toList _ _ _ _ h2]; exact REs_set hr i _ _ hke hv hbe, hf⟩
        refine ⟨w', ?_, h6, h7⟩
        have h1' : ces.findIdx? (fun e => (e.born : Int) == Int.ofNat n) = some i := by
          rw [← List.findIdx?_toArray] at h1
          simpa using h1
        simp only [Instr.entryStore, Sem.run_bind, hget P, Result.andThen_ok, asInt, asIntOf, Sem.run_pure, h1', h5]
      · cases he
    · cases he
  · cases he

theorem deleteA_ok (hpt : pt.Ok P) (h : SR w0 μ σ w) {argTypes : Array TypeId} {t : TypeId} (h0 : argTypes[0]? = some t) {m k : V} {σ' : St} (he : deleteA pt t σ m k = some σ') {cm ck : Value} (hm : R μ m cm) (hk : R μ k ck) (rt : TypeId) :
    Yields P w0 μ σ w (Builtin.delete_ argTypes rt #[cm, ck]) (.tuple []) σ' := by
  unfold deleteA at he
  split at he
  · rename_i kt et hmo
    have hu := mapOf_ok hmo
    split at he
    · rename_i hok
      split at he
      · cases he
        simp only [R] at hm; subst hm
        obtain ⟨hc, _⟩ := run_findKey (P := P) (es := []) (ces := []) (r := none) hpt hk hok .nil rfl w
        refine ⟨.tuple #[], w, μ, ?_, h, Ext.refl μ σ, [], rfl, rfl⟩
        simp only [Builtin.delete_, h0, List.getElem?_toArray, List.getElem?_cons_zero, List.getElem?_cons_succ, Sem.run_bind, run_und hpt hu w, Result.andThen_ok, hc]
        rfl
      · rename_i b
        obtain ⟨p, hp, e⟩ := hm
        subst e
        split at he
        · rename_i es clock hg
          obtain ⟨ces, hO, hr, hf, hget⟩ := h.mapAt hp hg
          split at he
          · rename_i i hfi
            cases he
            obtain ⟨hc, c, e, h1, h2, h3, h4⟩ := run_findKey (P := P) hpt hk hok hr hfi w
            have hlt : i < ces.size := by
              rcases Nat.lt_or_ge i ces.toList.length with hh | hh
              · exact hh
              · rw [List.getElem?_eq_none hh] at h1; cases h1
            obtain ⟨w', h5, h6, h7⟩ := h.setObj (P := P) hp hg rfl hf hO rfl (a' := .map (es.eraseIdx i) clock) (O' := .map (ces.eraseIdxIfInBounds i) clock)
              ⟨_, rfl, by unfold Array.eraseIdxIfInBounds; rw [dif_pos hlt, Array.toList_eraseIdx]; exact REs_erase hr i, hf⟩
            refine ⟨.tuple #[], w', μ, ?_, h6, h7, [], rfl, rfl⟩
            simp only [Builtin.delete_, h0, List.getElem?_toArray, List.getElem?_cons_zero, List.getElem?_cons_succ, Sem.run_bind, run_und hpt hu w, Result.andThen_ok, hget P, hc, h3, h5]
            rfl
          · rename_i hfi
            cases he
            obtain ⟨hc, h3⟩ := run_findKey (P := P) hpt hk hok hr hfi w
            obtain ⟨w', h5, h6, h7⟩ := h.setObj (P := P) hp hg rfl hf hO rfl (a' := .map es clock) (O' := .map ces clock) ⟨_, rfl, hr, hf⟩
            refine ⟨.tuple #[], w', μ, ?_, h6, h7, [], rfl, rfl⟩
            simp only [Builtin.delete_, h0, List.getElem?_toArray, List.getElem?_cons_zero, List.getElem?_cons_succ, Sem.run_bind, run_und hpt hu w, Result.andThen_ok, hget P, hc, h3, h5]
            rfl
          · cases he
        · cases he
      · cases he
    · cases he
  · cases he

theorem clearA_ok (hpt : pt.Ok P) (h : SR w0 μ σ w) {argTypes : Array TypeId} {t : TypeId} (h0 : argTypes[0]? = some t) {x : V} {σ' : St} (he : clearA pt t σ x = some σ') {cx : Value} (hx : R μ x cx) (rt : TypeId) :
    Yields P w0 μ σ w (Builtin.clear_ argTypes rt #[cx]) (.tuple []) σ' := by
  unfold clearA at he
  split at he
  · rename_i d hu
    have st := run_und hpt hu w
    split at he
    · cases he
      simp only [R] at hx; subst hx
      exact ⟨.tuple #[], w, μ, by simp only [Builtin.clear_, h0, List.getElem?_toArray, List.getElem?_cons_zero, Sem.run_bind, st, Result.andThen_ok]; cases d <;> rfl, h, Ext.refl μ σ, [], rfl, rfl⟩
    · cases he
      simp only [R] at hx; subst hx
      exact ⟨.tuple #[], w, μ, by simp only [Builtin.clear_, h0, List.getElem?_toArray, List.getElem?_cons_zero, Sem.run_bind, st, Result.andThen_ok]; cases d <;> rfl, h, Ext.refl μ σ, [], rfl, rfl⟩
    · cases he
      obtain ⟨ca, cc, e, _⟩ := hx
      subst e
      exact ⟨.tuple #[], w, μ, by simp only [Builtin.clear_, h0, List.getElem?_toArray, List.getElem?_cons_zero, Sem.run_bind, st, Result.andThen_ok]; cases d <;> rfl, h, Ext.refl μ σ, [], rfl, rfl⟩
    · rename_i b
      obtain ⟨p, hp, e⟩ := hx
      subst e
      split at he
      · rename_i es clock hg
        cases he
        obtain ⟨ces, hO, hr, hf, hget⟩ := h.mapAt hp hg
        obtain ⟨w', h5, h6, h7⟩ := h.setObj (P := P) hp hg rfl hf hO rfl (a' := .map [] clock) (O' := .map #[] clock) ⟨_, rfl, .nil, hf⟩
        exact ⟨.tuple #[], w', μ, by simp only [Builtin.clear_, h0, List.getElem?_toArray, List.getElem?_cons_zero, Sem.run_bind, st, Result.andThen_ok, hget P, h5]; rfl, h6, h7, [], rfl, rfl⟩
      · cases he
    · rename_i b o len cap sz hne
      split at he
      · rename_i e
        split at he
        · rename_i n zs hn hz
          split at he
          · rename_i hb
            have hb := Nat.eq_of_beq_eq_true hb
            subst hb
            obtain ⟨ca, cc, e1, hl, hc, ha, _⟩ := hx
            subst e1
            cases len with
            | zero => exact (hne rfl).elim
            | succ len =>
              obtain ⟨p, hp, e2, hfit⟩ := ha (by omega)
              subst e2
              obtain ⟨z, s, h1, h2, h3, h4⟩ := zerosA_ok (μ := μ) hpt hz w
              have : s = n := by rw [hn] at h2; exact (Option.some.inj h2).symm
              subst this
              obtain ⟨w', h5, h6, h7⟩ := putCells_ok (P := P) h hp (h4 ((len + 1) * s) rfl) he
              refine ⟨.tuple #[], w', μ, ?_, h6, h7, [], rfl, rfl⟩
              have h5' : (storeCells ⟨p.blk, p.off + o, none⟩ (Builtin.zeroCells z.cells (len + 1)).toList).run P w = .ok () w' := by
                simp only [Builtin.zeroCells, h3] at h5 ⊢
                exact h5
              simp only [Builtin.clear_, h0, List.getElem?_toArray, List.getElem?_cons_zero, Sem.run_bind, st, Result.andThen_ok, h1, h5']
              rfl
          · cases he
        · cases he
      · cases he
    · cases he
  · cases he

theorem lenOfA_ok (hpt : pt.Ok P) (h : SR w0 μ σ w) {argTypes : Array TypeId} {t : TypeId} (h0 : argTypes[0]? = some t) {x v : V} (he : lenOfA pt t σ x = some v) {cx : Value} (hx : R μ x cx) (rt : TypeId) :
    ∃ cv, (Builtin.len_ argTypes rt #[cx]).run P w = .ok cv w ∧ R μ v cv := by
  unfold lenOfA at he
  split at he
  · rename_i d hu
    have st := run_und hpt hu w
    split at he
    · cases he
      obtain ⟨ba, e, e2⟩ := hx
      subst e; subst e2
      exact ⟨_, by simp only [Builtin.len_, h0, List.getElem?_toArray, List.getElem?_cons_zero, Sem.run_bind, st, Result.andThen_ok]; rfl, rfl⟩
    · cases he
      exact ⟨_, by simp only [Builtin.len_, h0, List.getElem?_toArray, List.getElem?_cons_zero, Sem.run_bind, st, Result.andThen_ok]; rfl, rfl⟩
    · cases he
      simp only [R] at hx; subst hx
      exact ⟨_, by simp only [Builtin.len_, h0, List.getElem?_toArray, List.getElem?_cons_zero, Sem.run_bind, st, Result.andThen_ok]; rfl, rfl⟩
    · cases he
      obtain ⟨ca, cc, e, _⟩ := hx
      subst e
      exact ⟨_, by simp only [Builtin.len_, h0, List.getElem?_toArray, List.getElem?_cons_zero, Sem.run_bind, st, Result.andThen_ok]; rfl, rfl⟩
    · cases he
      simp only [R] at hx; subst hx
      exact ⟨_, by simp only [Builtin.len_, h0, List.getElem?_toArray, List.getElem?_cons_zero, Sem.run_bind, st, Result.andThen_ok]; rfl, rfl⟩
    · rename_i b
      obtain ⟨p, hp, e⟩ := hx
      subst e
      split at he
      · rename_i es clock hg
        cases he
        obtain ⟨ces, hO, hr, hf, hget⟩ := h.mapAt hp hg
        refine ⟨_, by simp only [Builtin.len_, h0, List.getElem?_toArray, List.getElem?_cons_zero, Sem.run_bind, st, Result.andThen_ok, hget P]; rfl, ?_⟩
        have := REs_length hr
        have e1 : ces.size = es.length := by simpa using this
        simp only [R, goInt, e1]
        rfl
      · cases he
    · rename_i a
      split at he
      · rename_i n e hu2
        cases he
        exact ⟨_, by simp only [Builtin.len_, h0, List.getElem?_toArray, List.getElem?_cons_zero, Sem.run_bind, st, Result.andThen_ok, run_und hpt hu2 w]; rfl, rfl⟩
      · cases he
    · cases he
  · cases he

theorem capOfA_ok (hpt : pt.Ok P) {argTypes : Array TypeId} {t : TypeId} (h0 : argTypes[0]? = some t) {x v : V} (he : capOfA pt t x = some v) {cx : Value} (hx : R μ x cx) (rt : TypeId) (w : World) :
    ∃ cv, (Builtin.cap_ argTypes rt #[cx]).run P w = .ok cv w ∧ R μ v cv := by
  unfold capOfA at he
  split at he
  · rename_i e hu
    cases he
    simp only [R] at hx; subst hx
    exact ⟨_, by simp only [Builtin.cap_, h0, List.getElem?_toArray, List.getElem?_cons_zero, Sem.run_bind, run_und hpt hu w, Result.andThen_ok]; rfl, rfl⟩
  · rename_i e b o n c sz hu
    cases he
    obtain ⟨ca, cc, e1, hl, hc, _⟩ := hx
    subst e1
    have := hc
    simp only [Cap.ok] at this
    subst this
    exact ⟨_, by simp only [Builtin.cap_, h0, List.getElem?_toArray, List.getElem?_cons_zero, Sem.run_bind, run_und hpt hu w, Result.andThen_ok]; rfl, rfl⟩
  · rename_i n e x' hu
    cases he
    exact ⟨_, by simp only [Builtin.cap_, h0, List.getElem?_toArray, List.getElem?_cons_zero, Sem.run_bind, run_und hpt hu w, Result.andThen_ok]; rfl, rfl⟩
  · cases he

theorem minMax_ok {mx : Bool} {x y v : V} (he : minMaxA mx x y = some v) {cx cy : Value} (hx : R μ x cx) (hy : R μ y cy) (w : World) :
    ∃ cv, (if mx then Builtin.max2 cx cy else Builtin.min2 cx cy).run P w = .ok cv w ∧ R μ v cv := by
  unfold minMaxA at he
  split at he
  · rename_i k a k' b
    simp only [R] at hx hy; subst hx; subst hy
    split at he
    · rename_i hk
      subst hk
      simp only [zle_eq] at he
      cases mx
      · simp only [Bool.false_eq_true, if_false, Builtin.min2]
        refine ⟨_, rfl, ?_⟩
        simp only at he
        split at he <;> cases he <;> (rename_i hd; simp at hd; simp only [R, Value.int.injEq, true_and])
        · rw [if_neg (by omega)]
        · rw [if_pos (by omega)]
      · simp only [if_true, Builtin.max2]
        refine ⟨_, rfl, ?_⟩
        simp only at he
        split at he <;> cases he <;> (rename_i hd; simp at hd; simp only [R, Value.int.injEq, true_and])
        · rw [if_neg (by omega)]
        · rw [if_pos (by omega)]
    · cases he
  · cases he

theorem fold_ok {mx : Bool} : ∀ (ys : List V) (cys : List Value) {x v : V} {cx : Value}, foldA (minMaxA mx) x ys = some v → R μ x cx → RL μ ys cys → ∀ (w : World),
    ∃ cv, (cys.foldlM (fun a b => if mx then Builtin.max2 a b else Builtin.min2 a b) cx : Sem Value).run P w = .ok cv w ∧ R μ v cv
  | [], cys, x, v, cx, he, hx, hr, w => by
    simp only [RL] at hr; subst hr
    simp only [foldA] at he; cases he
    exact ⟨cx, rfl, hx⟩
  | y :: ys, cys, x, v, cx, he, hx, hr, w => by
    obtain ⟨c, cs, hc, hcs, e⟩ := hr
    subst e
    simp only [foldA] at he
    split at he
    · rename_i z hz
      obtain ⟨cz, h1, h2⟩ := minMax_ok (P := P) hz hx hc w
      obtain ⟨cv, h3, h4⟩ := fold_ok ys cs he h2 hcs w
      exact ⟨cv, by simp only [List.foldlM_cons, Sem.run_bind, h1, Result.andThen_ok, h3], h4⟩
    · cases he

end Go.AI

/- Soundness, part 10: every operation. -/
namespace Go.AI
variable {P : Program} {pt : PT} {w0 : W0} {μ : Mu} {σ : St} {w : World}

theorem nextA_ok (h : SR w0 μ σ w) {it v : V} {σ' : St} (he : nextA σ it = some (v, σ')) {ci : Value} (hi : R μ it ci) (t : TypeId) :
    Yields P w0 μ σ w (Instr.next ci true t) v σ' := by
  unfold nextA at he
  split at he
  · rename_i b
    obtain ⟨p, hp, e⟩ := hi
    subst e
    split at he
    · rename_i s pos hg
      obtain ⟨O, hO, ⟨ba, hba, hs⟩, hoff, hf⟩ := h.obj b p _ hp hg
      subst hba; subst hs
      have hget := run_getObj (P := P) hO rfl
      have hba : (⟨ba.data.toList.toArray⟩ : ByteArray) = ba := rfl
      split at he
      · rename_i hlt
        have hlt : pos < ba.size := Nat.blt_eq.mp hlt
        split at he
        rename_i c width hdec
        cases he
        rw [hba] at hdec
        obtain ⟨w', h5, h6, h7⟩ := h.setObj (P := P) hp hg rfl hf hO rfl (a' := .iter ba.data.toList (pos + width)) (O' := .stringIter ba (pos + width)) ⟨⟨ba, rfl, rfl⟩, hoff, hf⟩
        refine ⟨.tuple #[.bool true, goInt pos, .int .i32 c], w', μ, ?_, h6, h7, _, ⟨_, _, rfl, ⟨_, _, rfl, ⟨_, _, rfl, rfl, rfl⟩, rfl⟩, rfl⟩, rfl⟩
        simp only [Instr.next, hoff, Nat.add_zero, Sem.run_bind, hget, Result.andThen_ok, hlt, if_true, hdec, h5]
        rfl
      · rename_i hlt
        have hlt : ¬ pos < ba.size := fun hh => by
          have h1 : Nat.blt pos ba.data.toList.length = true := Nat.blt_eq.mpr hh
          rw [h1] at hlt; cases hlt
        cases he
        refine ⟨.tuple #[.bool false], w, μ, ?_, h, Ext.refl μ σ, _, ⟨_, _, rfl, rfl, rfl⟩, rfl⟩
        simp only [Instr.next, hoff, Nat.add_zero, Sem.run_bind, hget, Result.andThen_ok, hlt, if_false]
        rfl
    · cases he
  · cases he

theorem extractA_ok {x v : V} {i : Nat} (he : extractA x i = some v) {cx : Value} (hx : R μ x cx) (w : World) : ∃ cv, (Instr.extract cx i).run P w = .ok cv w ∧ R μ v cv := by
  unfold extractA at he
  split at he
  · rename_i vs
    obtain ⟨cs, hcs, e⟩ := hx
    subst e
    obtain ⟨y, h1, h2⟩ := RL_get hcs i v he
    exact ⟨y, by simp [Instr.extract, h1], h2⟩
  · cases he

theorem assertA_ok (hpt : pt.Ok P) {x v : V} {want xt : TypeId} {ok : Bool} (he : assertA pt x want ok = some v) {cx : Value} (hx : R μ x cx) (w : World) :
    ∃ cv, (Instr.typeAssert cx xt want ok).run P w = .ok cv w ∧ R μ v cv := by
  unfold assertA at he
  split at he
  · rename_i d hu
    have st := run_und hpt hu w
    split at he
    · cases he
    · rename_i hni
      split at he
      · rename_i t y
        obtain ⟨cy, hy, e⟩ := hx
        subst e
        split at he
        · rename_i hb
          have hb := Nat.eq_of_beq_eq_true hb
          subst hb
          cases he
          refine ⟨if ok then .tuple #[cy, .bool true] else cy, ?_, ?_⟩
          · simp only [Instr.typeAssert, Sem.run_bind, st, Result.andThen_ok]
            cases d <;> first | (exact absurd rfl (hni _)) | (simp only [if_true]; rfl)
          · cases ok
            · exact hy
            · exact ⟨_, ⟨_, _, hy, ⟨_, _, rfl, rfl, rfl⟩, rfl⟩, rfl⟩
        · rename_i hb
          have hne : t ≠ want := fun e => by subst e; simp at hb
          split at he
          · rename_i z hz
            cases he
            obtain ⟨cz, h1, h2⟩ := run_zero hpt hz w
            refine ⟨.tuple #[cz, .bool false], ?_, _, ⟨_, _, h2 μ, ⟨_, _, rfl, rfl, rfl⟩, rfl⟩, rfl⟩
            simp only [Instr.typeAssert, Sem.run_bind, st, Result.andThen_ok]
            cases d <;> first | (exact absurd rfl (hni _)) | (simp only [if_neg hne, if_true, Sem.run_bind, h1, Result.andThen_ok]; rfl)
          · cases he
      · simp only [R] at hx; subst hx
        split at he
        · rename_i z hz
          cases he
          obtain ⟨cz, h1, h2⟩ := run_zero hpt hz w
          refine ⟨.tuple #[cz, .bool false], ?_, _, ⟨_, _, h2 μ, ⟨_, _, rfl, rfl, rfl⟩, rfl⟩, rfl⟩
          simp only [Instr.typeAssert, Sem.run_bind, st, Result.andThen_ok]
          cases d <;> first | (exact absurd rfl (hni _)) | (simp only [if_true, Sem.run_bind, h1, Result.andThen_ok]; rfl)
        · cases he
      · cases he
  · cases he

/-! ### Operands -/

def ROp (μ : Mu) (ρ : Operand → Option V) (cρ : Operand → Value) : Prop := ∀ x v, ρ x = some v → R μ v (cρ x)

theorem operands_ok {ρ : Operand → Option V} {cρ : Operand → Value} (hρ : ROp μ ρ cρ) : ∀ (xs : List Operand) (vs : List V), operands ρ xs = some vs → RL μ vs (xs.map cρ)
  | [], vs, h => by simp only [operands] at h; cases h; rfl
  | x :: xs, vs, h => by
    simp only [operands] at h
    split at h
    · rename_i v hv
      split at h
      · rename_i vs' hvs
        cases h
        exact ⟨_, _, hρ _ _ hv, operands_ok hρ xs vs' hvs, rfl⟩
      · cases h
    · cases h

theorem parts_ok {ρ : Operand → Option V} {cρ : Operand → Value} (hρ : ROp μ ρ cρ) : ∀ (xs : List (Nat × Operand)) (vs : List (Nat × V)), parts ρ xs = some vs → RParts μ vs (xs.map fun x => (x.1, cρ x.2))
  | [], vs, h => by simp only [parts] at h; cases h; exact ⟨rfl, fun i x hx => by simp at hx⟩
  | (i, x) :: xs, vs, h => by
    simp only [parts] at h
    split at h
    · rename_i v hv
      split at h
      · rename_i vs' hvs
        cases h
        obtain ⟨h1, h2⟩ := parts_ok hρ xs vs' hvs
        refine ⟨by simpa using h1, fun j y hy => ?_⟩
        cases j with
        | zero => simp at hy; subst hy; exact ⟨_, rfl, rfl, hρ _ _ hv⟩
        | succ j => simpa using h2 j y (by simpa using hy)
      · cases h
    · cases h

theorem optOperand_ok {ρ : Operand → Option V} {cρ : Operand → Value} (hρ : ROp μ ρ cρ) {x : Option Operand} {v : Option V} (h : optOperand ρ x = some v) : ROpt μ v (x.map cρ) := by
  unfold optOperand at h
  split at h
  · cases h; rfl
  · split at h
    · rename_i y hy
      cases h
      exact ⟨_, rfl, hρ _ _ hy⟩
    · cases h

/-- What an operation comes to, on both sides. -/
def Comes2 (P : Program) (w0 : W0) (μ : Mu) (σ : St) (w : World) (s : Sem Next) (σ' : St) : ANext → Prop
  | .val v => ∃ cv w' μ', s.run P w = .ok (.value cv) w' ∧ SR w0 μ' σ' w' ∧ Ext μ σ μ' σ' ∧ R μ' v cv
  | .skip => ∃ w' μ', s.run P w = .ok .skip w' ∧ SR w0 μ' σ' w' ∧ Ext μ σ μ' σ'
  | .call c => σ' = σ ∧ match c.fn with
    | .func f => ∃ cargs : List Value, RL μ c.args cargs ∧ s.run P w = (callFunc f cargs.toArray).run P w
    | .yield l => ∃ (p : Loc) (cargs : List Value), μ l = some p ∧ RL μ c.args cargs ∧ s.run P w = (Instr.yield p.blk cargs.toArray).run P w
    | _ => False
  | .defer fn cap args => σ' = σ ∧ ∃ f ccap cargs, fn = .func f ∧ RL μ cap ccap ∧ RL μ args cargs ∧
      s.run P w = .ok (.defer { target := .fn (.func f) ccap.toArray, args := cargs.toArray }) w
  | .panic _ => True
  | .recover => True

theorem of_yields {s : Sem Value} {v : V} {σ' : St} (h : Yields P w0 μ σ w s v σ') : Comes2 P w0 μ σ w (do pure (.value (← s))) σ' (.val v) := by
  obtain ⟨cv, w', μ', h1, h2, h3, h4⟩ := h
  exact ⟨cv, w', μ', by simp only [Sem.run_bind, h1, Result.andThen_ok, Sem.run_pure], h2, h3, h4⟩

theorem of_store {s : Sem Unit} {σ' : St} (h : ∃ w', s.run P w = .ok () w' ∧ SR w0 μ σ' w' ∧ Ext μ σ μ σ') : Comes2 P w0 μ σ w (do s; pure .skip) σ' .skip := by
  obtain ⟨w', h1, h2, h3⟩ := h
  exact ⟨w', μ, by simp only [Sem.run_bind, h1, Result.andThen_ok, Sem.run_pure], h2, h3⟩

theorem rV_ok {r : Option V} {nx : ANext} {σ' : St} (h : rV σ r = some (nx, σ')) : ∃ v, r = some v ∧ nx = .val v ∧ σ' = σ := by
  unfold rV at h
  split at h
  · cases h; exact ⟨_, rfl, rfl, rfl⟩
  · cases h
theorem rVS_ok {r : Option (V × St)} {nx : ANext} {σ' : St} (h : rVS r = some (nx, σ')) : ∃ v, r = some (v, σ') ∧ nx = .val v := by
  unfold rVS at h
  split at h
  · cases h; exact ⟨_, rfl, rfl⟩
  · cases h
theorem rS_ok {r : Option St} {nx : ANext} {σ' : St} (h : rS r = some (nx, σ')) : r = some σ' ∧ nx = .skip := by
  unfold rS at h
  split at h
  · cases h; exact ⟨rfl, rfl⟩
  · cases h
theorem w1_ok {α : Type} {ρ : Operand → Option V} {x : Operand} {f : V → Option α} {r : α} (h : w1 ρ x f = some r) : ∃ v, ρ x = some v ∧ f v = some r := by
  unfold w1 at h
  split at h
  · exact ⟨_, by assumption, h⟩
  · cases h
theorem w2_ok {α : Type} {ρ : Operand → Option V} {x y : Operand} {f : V → V → Option α} {r : α} (h : w2 ρ x y f = some r) : ∃ v u, ρ x = some v ∧ ρ y = some u ∧ f v u = some r := by
  unfold w2 at h
  split at h
  · split at h
    · exact ⟨_, _, by assumption, by assumption, h⟩
    · cases h
  · cases h
theorem w3_ok {α : Type} {ρ : Operand → Option V} {x y z : Operand} {f : V → V → V → Option α} {r : α} (h : w3 ρ x y z f = some r) :
    ∃ v u t, ρ x = some v ∧ ρ y = some u ∧ ρ z = some t ∧ f v u t = some r := by
  unfold w3 at h
  split at h
  · split at h
    · split at h
      · exact ⟨_, _, _, by assumption, by assumption, by assumption, h⟩
      · cases h
    · cases h
  · cases h

end Go.AI
