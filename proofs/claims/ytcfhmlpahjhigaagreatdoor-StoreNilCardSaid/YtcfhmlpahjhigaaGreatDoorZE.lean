/- Soundness, part 17: a region whose order is drawn. -/
import Derived.Test.YtcfhmlpahjhigaaGreatDoorZD
import Derived.LoopNIn
import Derived.RangeFuncLeaves
import Derived.Test.YtcfhmlpahjhigaaGreatDoorZB
import Derived.ProofKit
import Derived.OpenShut
import Derived.ChangeSame
namespace Go.AI
variable {P : Program} {pt : PT}

theorem tmpsOf_mem {t : Tmp} : ∀ {l : List Operand}, Operand.tmp t ∈ l → t ∈ tmpsOf l
  | [], h => by cases h
  | x :: xs, h => by
    rcases List.mem_cons.1 h with rfl | h
    · simp [tmpsOf]
    · have := tmpsOf_mem h
      cases x <;> simp only [tmpsOf] <;> first | exact this | exact List.mem_cons_of_mem _ this

theorem looksAt_op {ops : List Oper} {o : Oper} {t : Tmp} (h : Operand.tmp t ∈ o.op.operands) : t ∈ looksAt ops o := by
  have h1 : t ∈ tmpsOf o.op.operands.toList := tmpsOf_mem (by simpa using h)
  unfold looksAt
  repeat' split
  all_goals first | exact List.mem_cons_of_mem _ h1 | exact h1

theorem evalA_look {ops : List Oper} {o : Oper} {tm tm' : T V} (h : ∀ t ∈ looksAt ops o, tm.get t = tm'.get t) : ∀ x ∈ o.op.operands, evalA tm x = evalA tm' x := by
  intro x hx
  cases x with
  | tmp t => exact h t (looksAt_op hx)
  | _ => rfl

theorem wantedA_look {ops : List Oper} {o : Oper} {tm tm' : T V} (h : ∀ t ∈ looksAt ops o, tm.get t = tm'.get t) : wantedA ops tm o = wantedA ops tm' o := by
  unfold wantedA
  split
  · rfl
  · rename_i j want hg
    split
    · rename_i oj hj
      split
      · rename_i d hd
        have : d ∈ looksAt ops o := by
          unfold looksAt
          simp only [hg, hj, hd]
          exact List.mem_cons_self ..
        rw [h d this]
      · rfl
    · rfl

theorem RT_congr {μ : Mu} {n : Nat} {t t' : T V} {c : Array Value} (h : ∀ d, t.get d = t'.get d) (k : RT μ n t c) : RT μ n t' c :=
  ⟨k.1, fun i v hv => k.2 i v (by rw [h i]; exact hv)⟩

theorem RT.putT {μ : Mu} {n : Nat} {tm : T V} {act : Act} (h : RT μ n tm act.tmps) {dst : Option Tmp} {v : V} {cv : Value} (hd : ∀ d, dst = some d → d < n) (hv : R μ v cv) : RT μ n (putT dst v tm) (act.put dst cv).tmps := by
  cases dst with
  | none => exact h
  | some d => exact h.set (hd d rfl) hv

theorem put_defers (act : Act) (dst : Option Tmp) (cv : Value) : (act.put dst cv).defers = act.defers := by cases dst <;> rfl

theorem ofSlice_same {tm : T V} {o : Oper} (h : ofSlice tm o = true) {σ σ₁ : St} {v : V} (he : opA pt (evalA tm) o σ₁ = some (.val v, σ₁)) : opA pt (evalA tm) o σ = some (.val v, σ) := by
  unfold ofSlice at h
  split at h
  · rename_i t x lo hi mx ho
    split at h
    · rename_i b f n c z hx
      unfold opA at he ⊢
      rw [ho] at he ⊢
      simp only [oSlice, hx] at he ⊢
      split at he
      · rename_i x' l' h' m' e1 e2 e3 e4
        cases e1
        simp only [rV] at he ⊢
        simp only [sliceA] at he ⊢
        split at he
        · rename_i y hy
          cases he
          rfl
        · cases he
      · cases he
    · cases h
  · cases h

theorem recheck_mem {σ : St} {e : Ent} (hk : opKind e.o = .read) (hsee : ∃ σ₁, opA pt (evalA e.tm) e.o σ₁ = some (.val e.v, σ₁)) : ∀ {ps : List Ent}, recheck pt σ ps = true → e ∈ ps → opA pt (evalA e.tm) e.o σ = some (.val e.v, σ)
  | [], _, h => by cases h
  | p :: ps, hr, h => by
    unfold recheck at hr
    split at hr
    · rename_i hp
      rcases List.mem_cons.1 h with rfl | h
      · obtain ⟨σ₁, h1⟩ := hsee
        exact ofSlice_same hp h1
      · exact recheck_mem hk hsee hr h
    · split at hr
      · rename_i v σ' he
        split at hr
        · rename_i hn
          rw [Nat.beq_eq] at hn
          simp only [Bool.and_eq_true] at hr
          rcases List.mem_cons.1 h with rfl | h
          · have := read_same hk he hn
            subst this
            rw [he, sameV_eq _ _ hr.1]
          · exact recheck_mem hk hsee hr.2 h
        · cases hr
      · cases hr

theorem dropAhead_mem {ms : List Nat} {j : Nat} {e : Ent} (hb : befB ms e.i j = false) : ∀ {ps : List Ent}, e ∈ ps → e ∈ dropAhead ms j ps
  | [], h => by cases h
  | p :: ps, h => by
    unfold dropAhead
    rcases List.mem_cons.1 h with rfl | h
    · rw [hb]; exact List.mem_cons_self ..
    · split
      · exact dropAhead_mem hb h
      · exact List.mem_cons_of_mem _ (dropAhead_mem hb h)

abbrev AllD : Nat → Bool := fun _ => true

structure Hist (n : Nat) (ops : List Oper) (tm0 : T V) (H : List Ent) : Prop where
  tms : ∀ H1 e H2, H = H1 ++ e :: H2 → e.tm = play AllD tm0 H1
  opOf : ∀ e ∈ H, ops[e.i]? = some e.o
  want : ∀ e ∈ H, wantedA ops e.tm e.o = some e.want
  unw : ∀ e ∈ H, e.want = false → e.v = .undef
  dst : ∀ e ∈ H, ∀ d, e.o.dst = some d → d < n
  blk : ∀ H1 e H2, H = H1 ++ e :: H2 → ∀ x ∈ H1, x.want = true → opKind x.o = .make → x.next < e.next

theorem Hist.add {n : Nat} {ops : List Oper} {tm0 : T V} {H : List Ent} (h : Hist n ops tm0 H) {e : Ent} (h1 : e.tm = play AllD tm0 H) (h2 : ops[e.i]? = some e.o) (h3 : wantedA ops e.tm e.o = some e.want)
    (h4 : e.want = false → e.v = .undef) (h5 : ∀ d, e.o.dst = some d → d < n) (h6 : ∀ x ∈ H, x.want = true → opKind x.o = .make → x.next < e.next) : Hist n ops tm0 (H ++ [e]) := by
  have cases2 : ∀ {p : Ent → Prop}, (∀ x ∈ H, p x) → p e → ∀ x ∈ H ++ [e], p x := fun ha hb x hx => by
    rcases List.mem_append.1 hx with hx | hx
    · exact ha x hx
    · rw [List.mem_singleton.1 hx]; exact hb
  have split : ∀ H1 x H2, H ++ [e] = H1 ++ x :: H2 → (H = H1 ∧ x = e) ∨ ∃ H3, H = H1 ++ x :: H3 := by
    intro H1 x H2 he
    rcases List.append_eq_append_iff.1 he with ⟨as, e1, e2⟩ | ⟨bs, e1, e2⟩
    · cases as with
      | nil => simp at e1 e2; exact .inl ⟨e1.symm, e2.1.symm⟩
      | cons y ys => simp at e2
    · cases bs with
      | nil => simp at e1 e2; exact .inl ⟨e1, e2.1⟩
      | cons y ys => simp at e2; obtain ⟨rfl, e2⟩ := e2; exact .inr ⟨ys, e1⟩
  refine ⟨fun H1 x H2 he => ?_, cases2 h.opOf h2, cases2 h.want h3, cases2 h.unw h4, cases2 h.dst h5, fun H1 x H2 he => ?_⟩
  · rcases split _ _ _ he with ⟨rfl, rfl⟩ | ⟨H3, e2⟩
    · exact h1
    · exact h.tms _ _ _ e2
  · rcases split _ _ _ he with ⟨rfl, rfl⟩ | ⟨H3, e2⟩
    · exact h6
    · exact h.blk _ _ _ e2

def Late (pt : PT) (σ0 : St) (μ : Mu) (σ : St) (ps : List Ent) (e : Ent) : Prop :=
  e.want = true →
    (opKind e.o = .pure → ∀ σ₁, opA pt (evalA e.tm) e.o σ₁ = some (.val e.v, σ₁)) ∧
    (opKind e.o = .read → e ∈ ps ∧ ∃ σ₁, opA pt (evalA e.tm) e.o σ₁ = some (.val e.v, σ₁)) ∧
    (opKind e.o = .make → ∃ obj, σ0.next ≤ e.next ∧ e.next < σ.next ∧ μ e.next = none ∧ σ.get e.next = some obj ∧
      ∀ h : T AObj, opA pt (evalA e.tm) e.o ⟨h, e.next⟩ = some (.val e.v, St.alloc ⟨h, e.next⟩ obj))

abbrev dn (listed : Array Bool) : Nat → Bool := fun i => listed.getD i false

structure Inv (pt : PT) (n : Nat) (ops : List Oper) (c : List Nat) (tm0 : T V) (w0 : W0) (μ0 : Mu) (σ0 : St)
    (listed : Array Bool) (H : List Ent) (js : List Nat) (ps : List Ent) (a : AAct) (μ : Mu) (σ : St) (act : Act) (w : World) : Prop where
  size : listed.size = ops.length
  split : H.map Ent.i ++ js = c
  hist : Hist n ops tm0 H
  closed : ∀ i j, dn listed j = true → befB (masks ops) i j = true → dn listed i = true
  undone : ∀ j ∈ js, dn listed j = false
  eff : ∀ e ∈ H, isEffect e.o = true → dn listed e.i = true
  late : ∀ e ∈ H, dn listed e.i = false → Late pt σ0 μ σ ps e
  tm : a.tmps = play AllD tm0 H
  tmps : RT μ n (play (dn listed) tm0 H) act.tmps
  defers : RDs μ a.defers act.defers
  sr : SR w0 μ σ w
  ext : Ext μ0 σ0 μ σ
  nexts : ∀ e ∈ H, e.want = true → opKind e.o = .make → e.next < σ.next

section
variable {n : Nat} {ops : List Oper} {c : List Nat} {tm0 : T V} {w0 : W0} {μ0 : Mu} {σ0 : St} (hplan : Plan ops c)
include hplan

theorem order_of {H1 H2 : List Ent} {e : Ent} {js : List Nat} (hs : (H1 ++ e :: H2).map Ent.i ++ js = c) :
    (∀ x ∈ H1, x.i ≠ e.i ∧ befB (masks ops) e.i x.i = false) ∧ (∀ x ∈ H2, e.i ≠ x.i ∧ befB (masks ops) x.i e.i = false) ∧ (∀ j ∈ js, e.i ≠ j ∧ befB (masks ops) j e.i = false) := by
  refine ⟨fun x hx => ?_, fun x hx => ?_, fun j hj => ?_⟩
  · exact hplan.order (H1.map Ent.i) e.i (H2.map Ent.i ++ js) (by rw [← hs]; simp) x.i (List.mem_map_of_mem hx)
  · obtain ⟨A, B, rfl⟩ := List.append_of_mem hx
    exact hplan.order (H1.map Ent.i ++ e.i :: A.map Ent.i) x.i (B.map Ent.i ++ js) (by rw [← hs]; simp) e.i (by simp)
  · obtain ⟨A, B, rfl⟩ := List.append_of_mem hj
    exact hplan.order ((H1 ++ e :: H2).map Ent.i ++ A) j B (by rw [← hs]; simp) e.i (by simp)

theorem agree {H1 H2 : List Ent} {e : Ent} {js : List Nat} {D : Nat → Bool} (hs : (H1 ++ e :: H2).map Ent.i ++ js = c) (hh : Hist n ops tm0 (H1 ++ e :: H2))
    (hcl : ∀ i j, D j = true → befB (masks ops) i j = true → D i = true) (hD : D e.i = false) (hpre : ∀ i, befB (masks ops) i e.i = true → D i = true) :
    ∀ t ∈ looksAt ops e.o, (play D tm0 (H1 ++ e :: H2)).get t = e.tm.get t := by
  intro t ht
  obtain ⟨o1, o2, _⟩ := order_of hplan hs
  have he : ops[e.i]? = some e.o := hh.opOf e (by simp)
  rw [play_append, hh.tms _ _ _ rfl]
  rw [play_skip]
  · refine play_congr (fun x hx hd => ?_) rfl
    have hx' : ops[x.i]? = some x.o := hh.opOf x (by simp [hx])
    obtain ⟨h1, h2⟩ := o1 x hx
    rcases hplan.tmp x.i x.o t hx' hd e.i e.o he h1 (.inl ht) with h3 | h3
    · exact hpre _ h3
    · rw [h2] at h3; cases h3
  · intro x hx hd
    rcases List.mem_cons.1 hx with rfl | hx
    · exact hD
    · have hx' : ops[x.i]? = some x.o := hh.opOf x (by simp [hx])
      obtain ⟨h1, h2⟩ := o2 x hx
      rcases hplan.tmp x.i x.o t hx' hd e.i e.o he (fun e => h1 e.symm) (.inl ht) with h3 | h3
      · rw [h2] at h3; cases h3
      · cases hDx : D x.i with
        | false => rfl
        | true => rw [hcl _ _ hDx h3] at hD; cases hD

theorem after {H1 H2 : List Ent} {e : Ent} {js : List Nat} {D D' : Nat → Bool} (hs : (H1 ++ e :: H2).map Ent.i ++ js = c) (hh : Hist n ops tm0 (H1 ++ e :: H2))
    (hcl : ∀ i j, D j = true → befB (masks ops) i j = true → D i = true) (hD : D e.i = false) (hD' : D' e.i = true) (hsame : ∀ i, i ≠ e.i → D' i = D i) :
    ∀ t, (play D' tm0 (H1 ++ e :: H2)).get t = (putT e.o.dst e.v (play D tm0 (H1 ++ e :: H2))).get t := by
  intro t
  obtain ⟨o1, o2, _⟩ := order_of hplan hs
  have he : ops[e.i]? = some e.o := hh.opOf e (by simp)
  rw [putT_get]
  split
  · rename_i hd
    rw [play_append]
    simp only [play, hD']
    rw [play_skip]
    · rw [putT_get, if_pos hd]
    · intro x hx hd'
      have hx' : ops[x.i]? = some x.o := hh.opOf x (by simp [hx])
      obtain ⟨h1, h2⟩ := o2 x hx
      rw [hsame _ (fun e => h1 e.symm)]
      rcases hplan.tmp x.i x.o t hx' hd' e.i e.o he (fun e => h1 e.symm) (.inr hd) with h3 | h3
      · rw [h2] at h3; cases h3
      · cases hDx : D x.i with
        | false => rfl
        | true => rw [hcl _ _ hDx h3] at hD; cases hD
  · rename_i hd
    refine play_congr (fun x hx hxd => hsame _ fun e1 => ?_) rfl
    have hx' : ops[x.i]? = some x.o := hh.opOf x hx
    rw [e1, he] at hx'
    rw [← Option.some.inj hx'] at hxd
    exact hd hxd

end

theorem dn_set {listed : Array Bool} {i : Nat} (h : i < listed.size) : dn (listed.setIfInBounds i true) i = true := by simp [dn, h]
theorem dn_set_ne {listed : Array Bool} {i j : Nat} (h : j ≠ i) : dn (listed.setIfInBounds i true) j = dn listed j := getD_set_ne false (fun e => h e.symm)

section
variable {n : Nat} {ops : List Oper} {c : List Nat} {tm0 : T V} {w0 : W0} {μ0 : Mu} {σ0 : St} {listed : Array Bool} {H : List Ent} {js : List Nat} {ps : List Ent} {a : AAct} {μ : Mu} {σ : St} {act : Act} {w : World}

theorem Inv.ract (h : Inv pt n ops c tm0 w0 μ0 σ0 listed H js ps a μ σ act w) : RAct μ n { tmps := play (dn listed) tm0 H, defers := a.defers } act := ⟨h.tmps, h.defers⟩

/-- A late operation has been done. -/
theorem Inv.done (hplan : Plan ops c) (h : Inv pt n ops c tm0 w0 μ0 σ0 listed H js ps a μ σ act w) {e : Ent} (he : e ∈ H) (hD : dn listed e.i = false) (hpre : ∀ i, befB (masks ops) i e.i = true → dn listed i = true)
    {μ' : Mu} {cv : Value} {w' : World} (hsr : SR w0 μ' σ w') (hle : μ.le μ') (hv : R μ' e.v cv) (hext : Ext μ0 σ0 μ' σ)
    (hun : ∀ x ∈ H, x.i ≠ e.i → dn listed x.i = false → x.want = true → opKind x.o = .make → μ' x.next = none) :
    Inv pt n ops c tm0 w0 μ0 σ0 (listed.setIfInBounds e.i true) H js ps a μ' σ (act.put e.o.dst cv) w' := by
  have hin : e.i < ops.length := hplan.inside _ (by rw [← h.split]; simp only [List.mem_append, List.mem_map]; exact .inl ⟨e, he, rfl⟩)
  have hin' : e.i < listed.size := by rw [h.size]; exact hin
  obtain ⟨H1, H2, hH⟩ := List.append_of_mem he
  have hs := h.split
  rw [hH] at hs
  have hh := h.hist
  rw [hH] at hh
  obtain ⟨_, _, o3⟩ := order_of hplan hs
  have mono : ∀ i, dn listed i = true → dn (listed.setIfInBounds e.i true) i = true := fun i hi => by
    by_cases e1 : i = e.i
    · rw [e1]; exact dn_set hin'
    · rw [dn_set_ne e1]; exact hi
  refine ⟨by simp [h.size], h.split, h.hist, fun i j hj hb => ?_, fun j hj => ?_, fun x hx hxe => mono _ (h.eff x hx hxe), fun x hx hxD hw => ?_, h.tm, ?_, ?_, hsr, hext, h.nexts⟩
  · by_cases e1 : j = e.i
    · rw [e1] at hb; exact mono _ (hpre i hb)
    · rw [dn_set_ne e1] at hj; exact mono _ (h.closed i j hj hb)
  · rw [dn_set_ne (fun e1 => (o3 j hj).1 e1.symm)]; exact h.undone j hj
  · have e1 : x.i ≠ e.i := fun e1 => by rw [e1, dn_set hin'] at hxD; cases hxD
    rw [dn_set_ne e1] at hxD
    obtain ⟨h1, h2, h3⟩ := h.late x hx hxD hw
    refine ⟨h1, h2, fun hk => ?_⟩
    obtain ⟨obj, h4, h5, h6, h7, h8⟩ := h3 hk
    exact ⟨obj, h4, h5, hun x hx e1 hxD hw hk, h7, h8⟩
  · refine RT_congr (t := putT e.o.dst e.v (play (dn listed) tm0 H)) (fun d => ?_) ((RT_mono hle h.tmps).putT (h.hist.dst e he) hv)
    have := after hplan hs hh h.closed hD (dn_set hin') (fun i hi => dn_set_ne hi) d
    rw [← hH] at this
    exact this.symm
  · rw [put_defers]; exact RDs_mono hle h.defers

theorem Inv.look (hplan : Plan ops c) (h : Inv pt n ops c tm0 w0 μ0 σ0 listed H js ps a μ σ act w) {e : Ent} (he : e ∈ H) (hD : dn listed e.i = false) (hpre : ∀ i, befB (masks ops) i e.i = true → dn listed i = true) :
    ∀ t ∈ looksAt ops e.o, (play (dn listed) tm0 H).get t = e.tm.get t := by
  obtain ⟨H1, H2, hH⟩ := List.append_of_mem he
  have hs := h.split
  rw [hH] at hs
  have hh := h.hist
  rw [hH] at hh
  rw [hH]
  exact agree hplan hs hh h.closed hD hpre

theorem pairs_ne {x e : Ent} {H : List Ent} (hh : Hist n ops tm0 H) (hx : x ∈ H) (he : e ∈ H) (hne : x.i ≠ e.i) (hwx : x.want = true) (hkx : opKind x.o = .make) (hwe : e.want = true) (hke : opKind e.o = .make) : x.next ≠ e.next := by
  obtain ⟨H1, H2, hH⟩ := List.append_of_mem he
  rw [hH] at hx
  rcases List.mem_append.1 hx with hx | hx
  · have := hh.blk H1 e H2 hH x hx hwx hkx
    omega
  · rcases List.mem_cons.1 hx with rfl | hx
    · exact absurd rfl hne
    · obtain ⟨A, B, hAB⟩ := List.append_of_mem hx
      have := hh.blk (H1 ++ e :: A) x B (by rw [hH, hAB]; simp) e (by simp) hwe hke
      omega

theorem exec_late (hpt : pt.Ok P) (hplan : Plan ops c) (h : Inv pt n ops c tm0 w0 μ0 σ0 listed H js ps a μ σ act w) (hrc : recheck pt σ ps = true) {e : Ent} (he : e ∈ H) (hD : dn listed e.i = false)
    (hpre : ∀ i, befB (masks ops) i e.i = true → dn listed i = true) {r : Option Nat} {K : Act → World → Prop} {Q : Exit → Act → World → Prop}
    (hK : ∀ act' w' μ', Inv pt n ops c tm0 w0 μ0 σ0 (listed.setIfInBounds e.i true) H js ps a μ' σ act' w' → μ.le μ' → K act' w') : wpOpIn (FR r) 0 P ops.toArray Q e.i K act w := by
  have hlook := h.look hplan he hD hpre
  have hget : ops.toArray[e.i]? = some e.o := by simpa using h.hist.opOf e he
  have hwant : wantedA ops (play (dn listed) tm0 H) e.o = some e.want := by rw [wantedA_look hlook]; exact h.hist.want e he
  have hw' := wanted_ok h.ract hwant
  unfold wpOpIn
  simp only [hget]
  have nodefer : ∀ c, e.want = true → e.o.op ≠ .defer c := fun c hw hc => by
    have : isEffect e.o = true := by unfold isEffect opKind; rw [hc]
    rw [h.eff e he this] at hD; cases hD
  cases hwe : e.want with
  | false =>
    rw [hwe] at hw'
    rw [hw']
    simp only [Bool.false_eq_true, if_false]
    refine ⟨fun f _ => trivial, hK _ _ μ (h.done hplan he hD hpre h.sr (Mu.le_refl μ) ?_ h.ext ?_) (Mu.le_refl μ)⟩
    · rw [h.hist.unw e he hwe]; exact R_undef
    · intro x hx _ hxD hxw hxk
      obtain ⟨_, _, h3⟩ := h.late x hx hxD hxw
      obtain ⟨_, _, _, h6, _⟩ := h3 hxk
      exact h6
  | true =>
    rw [hwe] at hw'
    rw [hw']
    simp only [if_true]
    obtain ⟨l1, l2, l3⟩ := h.late e he hD hwe
    have hsem : e.o.semAt r act.eval = execOp act.eval e.o := Oper.semAt_eq _ _ _ (fun c => nodefer c hwe)
    have hops := evalA_look hlook
    have same : opA pt (evalA e.tm) e.o σ = some (.val e.v, σ) → e.o.wpIn (FR r) 0 P act w K Q := fun hop => by
      rw [← opA_congr e.o σ hops] at hop
      obtain ⟨cv, w', μ', h1, h2, h3, h4⟩ := opA_ok (P := P) hpt h.sr h.ract.op hop
      refine ⟨fun f _ => trivial, ?_⟩
      show e.o.uponIn (FR r) 0 P act K Q ((e.o.semAt r act.eval).run P w)
      rw [hsem, h1]
      refine hK _ _ μ' (h.done hplan he hD hpre h2 h3.le h4 (h.ext.trans h3) ?_) h3.le
      intro x hx _ hxD hxw hxk
      obtain ⟨_, _, k3⟩ := h.late x hx hxD hxw
      obtain ⟨_, _, k5, k6, _⟩ := k3 hxk
      exact (h3.unm _ k5 k6).1
    cases hk : opKind e.o with
    | pure => exact same (l1 hk σ)
    | read => exact same (recheck_mem hk (l2 hk).2 hrc (l2 hk).1)
    | effect =>
      have : isEffect e.o = true := by unfold isEffect; rw [hk]
      rw [h.eff e he this] at hD; cases hD
    | make =>
      obtain ⟨obj, k1, k2, k3, k4, k5⟩ := l3 hk
      have hop := k5 σ.heap
      rw [← opA_congr e.o _ hops] at hop
      obtain ⟨cv, O, p, h1, h2, h3⟩ := make_at (P := P) (w := w) hpt h.sr.below.new h.ract.op hk hop
      have hle := μ.le_add p k3
      obtain ⟨h4, h5⟩ := h3 (μ.add e.next p) hle (Mu.add_same _ _ _)
      refine ⟨fun f _ => trivial, ?_⟩
      show e.o.uponIn (FR r) 0 P act K Q ((e.o.semAt r act.eval).run P w)
      rw [hsem, h1]
      refine hK _ _ (μ.add e.next p) (h.done hplan he hD hpre (h.sr.late k3 k2 k4 h2 h4) hle h5 ?_ ?_) hle
      · refine ⟨Mu.le_trans h.ext.le hle, h.ext.next, fun b hb hn => ?_⟩
        obtain ⟨q1, q2⟩ := h.ext.unm b hb hn
        refine ⟨?_, q2⟩
        unfold Mu.add
        rw [if_neg (by omega)]
        exact q1
      · intro x hx hxe hxD hxw hxk
        obtain ⟨_, _, q3⟩ := h.late x hx hxD hxw
        obtain ⟨_, _, _, q6, _⟩ := q3 hxk
        unfold Mu.add
        rw [if_neg (pairs_ne h.hist hx he hxe hxw hxk hwe hk)]
        exact q6

theorem play_undone {D : Nat → Bool} {H : List Ent} {e : Ent} {t : T V} (h : D e.i = false) : play D t (H ++ [e]) = play D t H := by
  rw [play_append]; simp only [play, h]

theorem play_all (H : List Ent) (e : Ent) (t : T V) : play AllD t (H ++ [e]) = putT e.o.dst e.v (play AllD t H) := by
  rw [play_append]; rfl

end
end Go.AI

/- Soundness, part 18: a region whose order is drawn, whole. -/
namespace Go.AI
variable {P : Program} {pt : PT}

theorem RRound.mono {μ μ' : Mu} (hle : μ.le μ') : ∀ {rnd r : Option Nat}, RRound μ rnd r → RRound μ' rnd r
  | none, _, h => h
  | some _, _, ⟨p, h1, h2⟩ => ⟨p, hle _ _ h1, h2⟩

section
variable {call : ACall → St → Option (AEnd × St)} (hcall : CallOk P call) (hpt : pt.Ok P) {n : Nat} {rnd r : Option Nat}
variable {ops : List Oper} {c : List Nat} {tm0 : T V} {w0 : W0} {μ0 : Mu} {σ0 : St} (hplan : Plan ops c)

/-- What the plan has next is no effect: it goes ahead, with us alone. -/
theorem Inv.calm {listed : Array Bool} {H : List Ent} {j : Nat} {js : List Nat} {ps ps' : List Ent} {a a' : AAct} {μ : Mu} {σ σ' : St} {act : Act} {w : World} {e : Ent}
    (h : Inv pt n ops c tm0 w0 μ0 σ0 listed H (j :: js) ps a μ σ act w) (hi : e.i = j) (htm : e.tm = a.tmps) (ho : ops[e.i]? = some e.o) (hw : wantedA ops e.tm e.o = some e.want)
    (hu : e.want = false → e.v = .undef) (hd : ∀ d, e.o.dst = some d → d < n) (hn : e.next = σ.next) (ha : a' = { tmps := putT e.o.dst e.v a.tmps, defers := a.defers }) (hne : isEffect e.o = false)
    (hps : ∀ x ∈ ps, x ∈ ps') (hl : Late pt σ0 μ σ' ps' e) (hσ : σ' = σ ∨ (∃ obj, σ' = σ.alloc obj)) (hmk : e.want = true → opKind e.o = .make → ∃ obj, σ' = σ.alloc obj) :
    Inv pt n ops c tm0 w0 μ0 σ0 listed (H ++ [e]) js ps' a' μ σ' act w := by
  have hDj : dn listed e.i = false := by rw [hi]; exact h.undone j (List.mem_cons_self ..)
  have hnx : σ.next ≤ σ'.next := by rcases hσ with rfl | ⟨obj, rfl⟩ <;> simp
  have hget : ∀ b, b < σ.next → σ'.get b = σ.get b := fun b hb => by
    rcases hσ with rfl | ⟨obj, rfl⟩
    · rfl
    · rw [St.get_alloc, if_neg (by omega)]
  refine ⟨h.size, by rw [← h.split]; simp [hi], h.hist.add (by rw [htm, h.tm]) ho hw hu hd (fun x hx hxw hxk => by rw [hn]; exact h.nexts x hx hxw hxk), h.closed, fun k hk => h.undone k (List.mem_cons_of_mem _ hk),
    fun x hx hxe => ?_, fun x hx hxD => ?_, ?_, ?_, ?_, ?_, ?_, fun x hx hxw hxk => ?_⟩
  · rcases List.mem_append.1 hx with hx | hx
    · exact h.eff x hx hxe
    · rw [List.mem_singleton.1 hx, hne] at hxe; cases hxe
  · rcases List.mem_append.1 hx with hx | hx
    · intro hxw
      obtain ⟨h1, h2, h3⟩ := h.late x hx hxD hxw
      refine ⟨h1, fun hk => ⟨hps x (h2 hk).1, (h2 hk).2⟩, fun hk => ?_⟩
      obtain ⟨obj, k1, k2, k3, k4, k5⟩ := h3 hk
      exact ⟨obj, k1, by omega, k3, by rw [hget _ k2]; exact k4, k5⟩
    · rw [List.mem_singleton.1 hx]; exact hl
  · rw [play_all, ha, ← h.tm]
  · rw [play_undone hDj]; exact h.tmps
  · rw [ha]; exact h.defers
  · rcases hσ with rfl | ⟨obj, rfl⟩
    · exact h.sr
    · exact h.sr.grow obj
  · rcases hσ with rfl | ⟨obj, rfl⟩
    · exact h.ext
    · exact h.ext.trans (Ext.grow μ σ obj)
  · rcases List.mem_append.1 hx with hx | hx
    · have := h.nexts x hx hxw hxk
      omega
    · rw [List.mem_singleton.1 hx] at hxw hxk ⊢
      obtain ⟨obj, rfl⟩ := hmk hxw hxk
      rw [hn]; simp

/-- At an effect, or at the end. -/
def AtEff (ops : List Oper) : List Nat → Prop
  | [] => True
  | j :: _ => ∃ o, ops[j]? = some o ∧ isEffect o = true

theorem adv {listed : Array Bool} {μ : Mu} {act : Act} {w : World} {fin : AAct × St} : ∀ (js : List Nat) {H : List Ent} {ps : List Ent} {a : AAct} {σ : St},
    Inv pt n ops c tm0 w0 μ0 σ0 listed H js ps a μ σ act w → drawA call pt n rnd (masks ops) ops js ps a σ = some fin →
    ∃ H' js' ps' a' σ', Inv pt n ops c tm0 w0 μ0 σ0 listed H' js' ps' a' μ σ' act w ∧ drawA call pt n rnd (masks ops) ops js' ps' a' σ' = some fin ∧ AtEff ops js'
  | [], H, ps, a, σ, h, hr => ⟨H, [], ps, a, σ, h, hr, trivial⟩
  | j :: js, H, ps, a, σ, h, hr => by
    have hr0 := hr
    unfold drawA at hr
    split at hr
    · cases hr
    · rename_i o ho
      rw [nth_eq] at ho
      split at hr
      · cases hr
      · rename_i wnt hw
        split at hr
        · rename_i he
          exact ⟨H, j :: js, ps, a, σ, h, hr0, o, ho, he⟩
        · rename_i he
          split at hr
          · split at hr
            · rename_i a' hp
              obtain ⟨ha, hd⟩ := putA_inv hp
              have h' := h.calm (e := { i := j, o := o, want := false, tm := a.tmps, v := .undef, next := σ.next }) (a' := a') (ps' := ps) (σ' := σ) rfl rfl ho hw (fun _ => rfl) hd rfl ha he (fun _ hx => hx)
                (fun h => by cases h) (.inl rfl) (fun h => by cases h)
              exact adv js h' hr
            · cases hr
          · split at hr
            · rename_i v a' σ' hc
              unfold calmA at hc
              split at hc
              · rename_i v₁ σ₁ hop
                split at hc
                · cases hc
                · rename_i hrd
                  split at hc
                  · rename_i a₁ hp
                    cases hc
                    obtain ⟨ha, hd⟩ := putA_inv hp
                    cases hk : opKind o with
                    | effect => unfold isEffect at he; rw [hk] at he; cases he
                    | pure =>
                      obtain ⟨h1, h2⟩ := pure_any hk hop
                      subst h1
                      have hrd : isRead o = false := by unfold isRead; rw [hk]
                      rw [hrd] at hr
                      have h' := h.calm (e := { i := j, o := o, want := true, tm := a.tmps, v := v, next := σ'.next }) (a' := a') (ps' := ps) (σ' := σ') rfl rfl ho hw (fun h => by cases h) hd rfl ha he (fun _ hx => hx)
                        (fun _ => ⟨fun _ => h2, fun x => by rw [hk] at x; (cases x), fun x => by rw [hk] at x; (cases x)⟩) (.inl rfl) (fun _ x => by rw [hk] at x; (cases x))
                      exact adv js h' hr
                    | read =>
                      have hrd' : isRead o = true := by unfold isRead; rw [hk]
                      rw [hrd'] at hr hrd
                      have hn : σ'.next = σ.next := by
                        cases hb : Nat.beq σ'.next σ.next with
                        | true => exact Nat.beq_eq.mp hb
                        | false => exact absurd hb (hrd rfl)
                      have h1 := read_same hk hop hn
                      subst h1
                      have h' := h.calm (e := { i := j, o := o, want := true, tm := a.tmps, v := v, next := σ'.next }) (a' := a') (ps' := { i := j, o := o, want := true, tm := a.tmps, v := v, next := σ'.next } :: ps) (σ' := σ') rfl rfl ho hw (fun h => by cases h) hd rfl ha he
                        (fun _ hx => List.mem_cons_of_mem _ hx)
                        (fun _ => ⟨fun x => by rw [hk] at x; (cases x), fun _ => ⟨List.mem_cons_self .., σ', hop⟩, fun x => by rw [hk] at x; (cases x)⟩) (.inl rfl) (fun _ x => by rw [hk] at x; (cases x))
                      exact adv js h' hr
                    | make =>
                      obtain ⟨obj, v', h1, h2, h3⟩ := make_any hk hop
                      cases h1
                      have hrd : isRead o = false := by unfold isRead; rw [hk]
                      rw [hrd] at hr
                      have h' := h.calm (e := { i := j, o := o, want := true, tm := a.tmps, v := v, next := σ.next }) (a' := a') (ps' := ps) (σ' := σ') rfl rfl ho hw (fun h => by cases h) hd rfl ha he (fun _ hx => hx)
                        (fun _ => ⟨fun x => by rw [hk] at x; (cases x), fun x => by rw [hk] at x; (cases x), fun _ => ⟨obj, h.ext.next, by rw [h2]; simp, h.sr.next_none, by rw [h2, St.get_alloc, if_pos rfl], h3⟩⟩) (.inr ⟨obj, h2⟩) (fun _ _ => ⟨obj, h2⟩)
                      exact adv js h' hr
                  · cases hc
              · cases hc
            · cases hr

include hcall hpt hplan in
theorem exec_eff {listed : Array Bool} {μ : Mu} {act : Act} {w : World} {fin : AAct × St} {H : List Ent} {j : Nat} {js : List Nat} {ps : List Ent} {a : AAct} {σ : St} {o : Oper}
    (h : Inv pt n ops c tm0 w0 μ0 σ0 listed H (j :: js) ps a μ σ act w) (hr : drawA call pt n rnd (masks ops) ops (j :: js) ps a σ = some fin) (ho : ops[j]? = some o) (he : isEffect o = true)
    (hpre : ∀ i, befB (masks ops) i j = true → dn listed i = true) (hrr : RRound μ rnd r) {K : Act → World → Prop} {Q : Exit → Act → World → Prop}
    (hK : ∀ act' w' μ' H' ps' a' σ', Inv pt n ops c tm0 w0 μ0 σ0 (listed.setIfInBounds j true) H' js ps' a' μ' σ' act' w' → drawA call pt n rnd (masks ops) ops js ps' a' σ' = some fin → μ.le μ' → K act' w') :
    wpOpIn (FR r) 0 P ops.toArray Q j K act w := by
  have hDj : dn listed j = false := h.undone j (List.mem_cons_self ..)
  have hjc : j ∈ c := by rw [← h.split]; simp
  have hin : j < listed.size := by rw [h.size]; exact hplan.inside j hjc
  unfold drawA at hr
  rw [nth_eq, ho] at hr
  simp only [] at hr
  split at hr
  · cases hr
  · rename_i wnt hw
    rw [he] at hr
    simp only [] at hr
    split at hr
    · cases hr
    · rename_i hrc
      have hget : ops.toArray[j]? = some o := by simpa using ho
      -- what the operation looks at
      have hlook : ∀ (e : Ent), e.i = j → e.o = o → Hist n ops tm0 (H ++ [e]) → e.tm = a.tmps → ∀ t ∈ looksAt ops o, (play (dn listed) tm0 H).get t = a.tmps.get t := by
        intro e e1 e2 hh e3 t ht
        have hs : (H ++ e :: []).map Ent.i ++ js = c := by rw [← h.split]; simp [e1]
        have := agree hplan hs hh h.closed (by rw [e1]; exact hDj) (by rw [e1]; exact hpre) t (by rw [e2]; exact ht)
        rw [play_undone (by rw [e1]; exact hDj), e3] at this
        exact this
      -- afterwards
      have fin' : ∀ (e : Ent), e.i = j → e.o = o → Hist n ops tm0 (H ++ [e]) → e.tm = a.tmps → e.next = σ.next → ∀ (act' : Act) (w' : World) (μ' : Mu) (a' : AAct) (σ' : St),
          SR w0 μ' σ' w' → Ext μ σ μ' σ' → RAct μ' n { tmps := putT o.dst e.v (play (dn listed) tm0 H), defers := a'.defers } act' → a'.tmps = putT o.dst e.v a.tmps →
          drawA call pt n rnd (masks ops) ops js (dropAhead (masks ops) j ps) a' σ' = some fin → K act' w' := by
        intro e e1 e2 hh e3 e4 act' w' μ' a' σ' k1 k2 k3 k4 k5
        have hs : (H ++ e :: []).map Ent.i ++ js = c := by rw [← h.split]; simp [e1]
        obtain ⟨o1, _, o3⟩ := order_of hplan hs
        have mono : ∀ i, dn listed i = true → dn (listed.setIfInBounds j true) i = true := fun i hi => by
          by_cases q : i = j
          · rw [q]; exact dn_set hin
          · rw [dn_set_ne q]; exact hi
        have hDe : dn listed e.i = false := by rw [e1]; exact hDj
        refine hK act' w' μ' (H ++ [e]) _ a' σ' ⟨by simp [h.size], hs, hh, fun i k hk hb => ?_, fun k hk => ?_, fun x hx hxe => ?_, fun x hx hxD hxw => ?_, ?_, ?_, k3.defers, k1, h.ext.trans k2, fun x hx hxw hxk => ?_⟩ k5 k2.le
        · by_cases q : k = j
          · rw [q] at hb; exact mono _ (hpre i hb)
          · rw [dn_set_ne q] at hk; exact mono _ (h.closed i k hk hb)
        · rw [dn_set_ne (fun q => (o3 k hk).1 (by rw [e1]; exact q.symm))]; exact h.undone k (List.mem_cons_of_mem _ hk)
        · rcases List.mem_append.1 hx with hx | hx
          · exact mono _ (h.eff x hx hxe)
          · rw [List.mem_singleton.1 hx, e1]; exact dn_set hin
        · rcases List.mem_append.1 hx with hx | hx
          · have q : x.i ≠ j := fun q => by rw [q, dn_set hin] at hxD; cases hxD
            rw [dn_set_ne q] at hxD
            obtain ⟨h1, h2, h3⟩ := h.late x hx hxD hxw
            refine ⟨h1, fun hk => ⟨dropAhead_mem ?_ (h2 hk).1, (h2 hk).2⟩, fun hk => ?_⟩
            · cases hb : befB (masks ops) x.i j with
              | false => rfl
              | true => rw [hpre _ hb] at hxD; cases hxD
            · obtain ⟨obj, p1, p2, p3, p4, p5⟩ := h3 hk
              obtain ⟨p6, p7⟩ := k2.unm _ p2 p3
              exact ⟨obj, p1, Nat.lt_of_lt_of_le p2 k2.next, p6, by rw [p7]; exact p4, p5⟩
          · rw [List.mem_singleton.1 hx, e1, dn_set hin] at hxD; cases hxD
        · rw [play_all, k4, h.tm, e2]
        · refine RT_congr (fun d => ?_) k3.tmps
          have := after (D' := dn (listed.setIfInBounds j true)) hplan hs hh h.closed hDe (by rw [e1]; exact dn_set hin) (fun i hi => dn_set_ne (by rw [← e1]; exact hi)) d
          rw [play_undone hDe, e2] at this
          exact this.symm
        · rcases List.mem_append.1 hx with hx | hx
          · exact Nat.lt_of_lt_of_le (h.nexts x hx hxw hxk) k2.next
          · rw [List.mem_singleton.1 hx, e2] at hxk
            unfold isEffect at he; rw [hxk] at he; cases he
      unfold wpOpIn
      simp only [hget]
      have hist1 : ∀ v, (wnt = false → v = .undef) → (∀ d, o.dst = some d → d < n) → Hist n ops tm0 (H ++ [{ i := j, o := o, want := wnt, tm := a.tmps, v := v, next := σ.next }]) := fun v hv hd =>
        h.hist.add h.tm ho hw hv hd (fun x hx hxw hxk => h.nexts x hx hxw hxk)
      cases wnt with
      | false =>
        simp only [] at hr
        split at hr
        · rename_i a' hp
          obtain ⟨ha, hd⟩ := putA_inv hp
          have hh := hist1 .undef (fun _ => rfl) hd
          have hl := hlook _ rfl rfl hh rfl
          have hwant : wantedA ops (play (dn listed) tm0 H) o = some false := by rw [wantedA_look hl]; exact hw
          rw [wanted_ok h.ract hwant]
          simp only [Bool.false_eq_true, if_false]
          refine ⟨fun f _ => trivial, ?_⟩
          refine fin' _ rfl rfl hh rfl rfl _ w μ a' σ h.sr (Ext.refl μ σ) ⟨h.tmps.putT hd R_undef, ?_⟩ (by rw [ha]) hr
          rw [put_defers, ha]; exact h.defers
        · cases hr
      | true =>
        simp only [] at hr
        split at hr
        · rename_i v a' σ' hst
          have hd : ∀ d, o.dst = some d → d < n := (stepA_congr (tm := a.tmps) (tm' := a.tmps) (fun _ _ => rfl) hst).2.2
          have hh := hist1 v (fun h => by cases h) hd
          have hl := hlook _ rfl rfl hh rfl
          have hwant : wantedA ops (play (dn listed) tm0 H) o = some true := by rw [wantedA_look hl]; exact hw
          rw [wanted_ok h.ract hwant]
          simp only [if_true]
          obtain ⟨s1, s2, _⟩ := stepA_congr (tm := a.tmps) (tm' := play (dn listed) tm0 H) (fun x hx => (evalA_look hl x hx).symm) hst
          refine step_ok hcall hpt s1 h.sr h.ract hrr (fun act₁ w' μ' cv q1 q2 q3 _ _ => ?_)
          exact fin' _ rfl rfl hh rfl rfl _ w' μ' a' σ' q1 q2 q3 s2 hr
        · cases hr

theorem recheck_of {js : List Nat} {ps : List Ent} {a : AAct} {σ : St} {fin : AAct × St} (hr : drawA call pt n rnd (masks ops) ops js ps a σ = some fin) (hat : AtEff ops js) : recheck pt σ ps = true := by
  cases js with
  | nil =>
    unfold drawA at hr
    split at hr
    · assumption
    · cases hr
  | cons j js =>
    obtain ⟨o, ho, he⟩ := hat
    unfold drawA at hr
    rw [nth_eq, ho] at hr
    simp only [he] at hr
    split at hr
    · cases hr
    · split at hr
      · cases hr
      · assumption

theorem filter_lt {l : List Nat} {D D' : Nat → Bool} {i : Nat} (hi : i ∈ l) (hD : D i = false) (hD' : D' i = true) (hle : ∀ j, D j = true → D' j = true) :
    (l.filter (fun j => !D' j)).length < (l.filter (fun j => !D j)).length := by
  have le : ∀ (l : List Nat), (l.filter (fun j => !D' j)).length ≤ (l.filter (fun j => !D j)).length := by
    intro l
    induction l with
    | nil => simp
    | cons x xs ih =>
      cases h : D x with
      | true => simp [h, hle x h]; exact ih
      | false =>
        cases h' : D' x with
        | true => simp [h, h']; omega
        | false => simp [h, h']; exact ih
  obtain ⟨A, B, rfl⟩ := List.append_of_mem hi
  have h1 := le A
  have h2 := le B
  simp only [List.filter_append, List.length_append, List.filter_cons, hD, hD']
  simp
  omega

include hcall hpt hplan in
theorem draw_main {fin : AAct × St} {Q : Exit → Act → World → Prop} (hQ : ∀ act' w' μ', SR w0 μ' fin.2 w' → Ext μ0 σ0 μ' fin.2 → RAct μ' n fin.1 act' → Q .normal act' w') :
    ∀ (fuel : Nat) {listed : Array Bool} {H : List Ent} {js : List Nat} {ps : List Ent} {a : AAct} {μ : Mu} {σ : St} {act : Act} {w : World},
      Inv pt n ops c tm0 w0 μ0 σ0 listed H js ps a μ σ act w → drawA call pt n rnd (masks ops) ops js ps a σ = some fin → AtEff ops js → RRound μ rnd r →
      ((List.range ops.length).filter (fun i => !dn listed i)).length ≤ fuel → wpAnyIn (FR r) 0 P .any ops.toArray Q fuel listed act w := by
  have stop : ∀ {listed : Array Bool} {H : List Ent} {js : List Nat} {ps : List Ent} {a : AAct} {μ : Mu} {σ : St} {act : Act} {w : World},
      Inv pt n ops c tm0 w0 μ0 σ0 listed H js ps a μ σ act w → drawA call pt n rnd (masks ops) ops js ps a σ = some fin →
      (∀ i, i < ops.length → dn listed i = true) → Q .normal act w := by
    intro listed H js ps a μ σ act w h hr hall
    have hjs : js = [] := by
      cases js with
      | nil => rfl
      | cons j js =>
        have h1 := h.undone j (List.mem_cons_self ..)
        rw [hall j (hplan.inside j (by rw [← h.split]; simp))] at h1
        cases h1
    subst hjs
    unfold drawA at hr
    split at hr
    · cases hr
      refine hQ act w μ h.sr h.ext ⟨RT_congr (fun d => ?_) h.tmps, h.defers⟩
      rw [h.tm]
      refine play_congr (fun x hx _ => ?_) rfl
      exact hall _ (hplan.inside _ (by rw [← h.split]; simp only [List.append_nil, List.mem_map]; exact ⟨x, hx, rfl⟩))
    · cases hr
  intro fuel
  induction fuel with
  | zero =>
    intro listed H js ps a μ σ act w h hr _ _ hf
    have hall : ∀ i, i < ops.length → dn listed i = true := fun i hi => by
      cases hD : dn listed i with
      | true => rfl
      | false =>
        have : i ∈ (List.range ops.length).filter (fun i => !dn listed i) := List.mem_filter.2 ⟨List.mem_range.2 hi, by simp [hD]⟩
        have := List.length_pos_of_mem this
        omega
    refine ⟨?_, stop h hr hall⟩
    refine List.eq_nil_iff_forall_not_mem.2 fun i hi => ?_
    obtain ⟨h1, o, h2, _⟩ := mem_ready.1 hi
    have hlt : i < ops.length := by
      rcases Nat.lt_or_ge i ops.length with h' | h'
      · exact h'
      · simp [List.getElem?_eq_none h'] at h2
    have hsz : i < listed.size := by rw [h.size]; exact hlt
    have := hall i hlt
    simp [dn, hsz] at h1 this
    rw [h1] at this; cases this
  | succ fuel ih =>
    intro listed H js ps a μ σ act w h hr hat hrr hf
    have und : ∀ i, i < ops.length → (listed.getD i true = false ↔ dn listed i = false) := fun i hi => by
      have hsz : i < listed.size := by rw [h.size]; exact hi
      simp [dn, hsz]
    refine ⟨fun hnil => stop h hr fun i => ?_, fun i hi => ?_⟩
    · induction i using Nat.strongRecOn with
      | ind i ihi =>
        intro hi
        cases hD : dn listed i with
        | true => rfl
        | false =>
          exfalso
          have : i ∈ Region.ready .any ops.toArray listed := mem_ready.2 ⟨(und i hi).2 hD, ops[i], by simp [hi], fun e he hb => by
            have h1 := hplan.back i ops[i] (by simp [hi]) e he hb
            exact ihi e.on h1 (by omega)⟩
          rw [hnil] at this; cases this
    · obtain ⟨h1, o, h2, h3⟩ := mem_ready.1 hi
      have h2 : ops[i]? = some o := by simpa using h2
      have hlt : i < ops.length := by
        rcases Nat.lt_or_ge i ops.length with h' | h'
        · exact h'
        · rw [List.getElem?_eq_none h'] at h2; cases h2
      have hD : dn listed i = false := (und i hlt).1 h1
      have hpre : ∀ k, befB (masks ops) k i = true → dn listed k = true := fun k hk => by
        obtain ⟨o', q1, e, he, hb, q2⟩ := bef_edge hk
        rw [h2] at q1; cases q1
        have q3 : dn listed e.on = true := h3 e he hb
        rcases q2 with rfl | q2
        · exact q3
        · exact h.closed _ _ q3 q2
      have hless : ((List.range ops.length).filter (fun k => !dn (listed.setIfInBounds i true) k)).length ≤ fuel := by
        have hin : i < listed.size := by rw [h.size]; exact hlt
        have := filter_lt (l := List.range ops.length) (D := dn listed) (D' := dn (listed.setIfInBounds i true)) (i := i) (List.mem_range.2 hlt) hD (dn_set hin) (fun j hj => by
          by_cases q : j = i
          · rw [q]; exact dn_set hin
          · rw [dn_set_ne q]; exact hj)
        omega
      have hic : i ∈ H.map Ent.i ++ js := by rw [h.split]; exact hplan.all i hlt
      rcases List.mem_append.1 hic with hm | hm
      · obtain ⟨e, he, rfl⟩ := List.mem_map.1 hm
        exact exec_late hpt hplan h (recheck_of hr hat) he hD hpre (fun act' w' μ' k1 k2 => ih k1 hr hat (hrr.mono k2) hless)
      · cases js with
        | nil => cases hm
        | cons j js =>
          obtain ⟨oj, hoj, hej⟩ := hat
          have hij : i = j := by
            rcases List.mem_cons.1 hm with q | q
            · exact q
            · have := hplan.effect (H.map Ent.i) j js h.split.symm oj hoj hej i q
              have q2 := hpre j this
              rw [h.undone j (List.mem_cons_self ..)] at q2; cases q2
          subst hij
          refine exec_eff hcall hpt hplan h hr hoj hej hpre hrr (fun act' w' μ' H' ps' a' σ' k1 k2 k3 => ?_)
          obtain ⟨H₂, js₂, ps₂, a₂, σ₂, q1, q2, q3⟩ := adv js k1 k2
          exact ih q1 q2 q3 (hrr.mono k3) hless

end

section
variable {call : ACall → St → Option (AEnd × St)} (hcall : CallOk P call) (hpt : pt.Ok P) {n : Nat} {rnd r : Option Nat}
include hcall hpt

theorem region_ok {id : Nat} {ops : Array Oper} {draw : Bool} {w0 : W0} {μ : Mu} {σ σ' : St} {w : World} {a a' : AAct} {act : Act} {Q : Exit → Act → World → Prop}
    (hs : regionA call pt n rnd ops draw a σ = some (a', σ')) (h : SR w0 μ σ w) (ha : RAct μ n a act) (hr : RRound μ rnd r)
    (hQ : ∀ act' w' μ', SR w0 μ' σ' w' → Ext μ σ μ' σ' → RAct μ' n a' act' → Q .normal act' w') : (Code.region id ops draw).wpIn (FR r) 0 P Q act w := by
  unfold regionA at hs
  split at hs
  · refine wpIn_region ?_
    have := seq_ok hcall hpt ops.toList ops.toList [] rfl hs h ha hr hQ
    simpa [List.range_eq_range'] using this
  · split at hs
    · rename_i hp
      have hplan := planOk_ok hp
      refine wpIn_region_any hpt.orders ?_
      have hinv : Inv pt n ops.toList (orderFrom (masks ops.toList) ops.toList ops.toList.length 0) a.tmps w0 μ σ (Array.replicate ops.size false) [] (orderFrom (masks ops.toList) ops.toList ops.toList.length 0) [] a μ σ act { w with drawn := w.drawn + 1 } := by
        have hd : ∀ i, dn (Array.replicate ops.size false) i = false := fun i => by simp [dn, Array.getD_eq_getD_getElem?, Array.getElem?_replicate]; split <;> rfl
        refine ⟨by simp, rfl, ⟨fun H1 e H2 he => ?_, fun e he => ?_, fun e he => ?_, fun e he => ?_, fun e he => ?_, fun H1 e H2 he => ?_⟩, fun i j hj => ?_, fun j _ => hd j, fun e he => ?_, fun e he => ?_, rfl, ha.tmps, ha.defers, h.drew _, Ext.refl μ σ, fun e he => ?_⟩
        · simp at he
        · cases he
        · cases he
        · cases he
        · cases he
        · simp at he
        · rw [hd] at hj; cases hj
        · cases he
        · cases he
        · cases he
      obtain ⟨H₂, js₂, ps₂, a₂, σ₂, q1, q2, q3⟩ := adv _ hinv hs
      have := draw_main hcall hpt hplan (fin := (a', σ')) hQ ops.size q1 q2 q3 hr (by
        have := List.length_filter_le (fun i => !dn (Array.replicate ops.size false) i) (List.range ops.toList.length)
        simpa using this)
      simpa using this
    · cases hs

end
end Go.AI

/- Soundness, part 19: code. -/
namespace Go.AI
variable {P : Program} {pt : PT}

def toExit : AExit → Exit
  | .normal => .normal
  | .exit j => .exit j
  | .ret => .ret

/-! ### Loops, unrolled by doubling -/

def Iter {S R : Type} (f : S → Option (Sum S R)) : Nat → S → Sum S R → Prop
  | 0, s, x => x = .inl s
  | m + 1, s, x => (∃ s₁, f s = some (.inl s₁) ∧ Iter f m s₁ x) ∨ (∃ r, f s = some (.inr r) ∧ x = .inr r)

theorem Iter.comp {S R : Type} {f : S → Option (Sum S R)} : ∀ {m k : Nat} {s s₁ : S} {x : Sum S R}, Iter f m s (.inl s₁) → Iter f k s₁ x → Iter f (m + k) s x
  | 0, k, s, s₁, x, h, h' => by
    have h : Sum.inl s₁ = Sum.inl s := h
    cases h
    rw [Nat.zero_add]; exact h'
  | m + 1, k, s, s₁, x, h, h' => by
    rw [show m + 1 + k = (m + k) + 1 from by omega]
    rcases h with ⟨s₂, h1, h2⟩ | ⟨r, _, h2⟩
    · exact .inl ⟨s₂, h1, h2.comp h'⟩
    · cases h2

theorem loopA_iter {S R : Type} {f : S → Option (Sum S R)} : ∀ {k : Nat} {s : S} {x : Sum S R}, loopA f k s = some x → ∃ m, Iter f m s x
  | 0, s, x, h => by
    simp only [loopA] at h
    cases x with
    | inl s₁ => exact ⟨1, .inl ⟨s₁, h, rfl⟩⟩
    | inr r => exact ⟨1, .inr ⟨r, h, rfl⟩⟩
  | k + 1, s, x, h => by
    simp only [loopA] at h
    split at h
    · rename_i s₁ h1
      obtain ⟨m, h2⟩ := loopA_iter h1
      obtain ⟨j, h3⟩ := loopA_iter h
      exact ⟨m + j, h2.comp h3⟩
    · exact loopA_iter h

/-! ### Records of loops -/

section
variable {w0 : W0} {μ : Mu} {σ : St} {w : World}

theorem SR.loopAt (h : SR w0 μ σ w) {l : Nat} {p : Loc} {A : ALoop} (hp : μ l = some p) (hg : σ.get l = some (.loop A)) :
    ∃ L : Loop, w.heap[p.blk]? = some (.loop L) ∧ L.state = A.state ∧ L.pending = A.pending ∧ RT μ A.ntmps A.tmps L.tmps ∧ L.params = A.params ∧ L.assign = A.assign ∧ L.body = A.body ∧
      (∃ q, μ A.defers = some q ∧ L.defers = q.blk) ∧ w0.may p.blk ∧ (Instr.getLoop p.blk).run P w = .ok L w := by
  obtain ⟨O, hO, L, e, h1, h2, h3, h4, h5, h6, h7, h8⟩ := h.obj l p _ hp hg
  subst e
  exact ⟨L, hO, h1, h2, h3, h4, h5, h6, h7, h8, by simp only [Instr.getLoop, Sem.run_bind, run_getObj hO rfl, Result.andThen_ok, Sem.run_pure]⟩

/-- The record of a loop is changed, in its state and its pending jump. -/
theorem SR.setLoop (h : SR w0 μ σ w) {l : Nat} {p : Loc} {A : ALoop} (hp : μ l = some p) (hg : σ.get l = some (.loop A)) {L : Loop} (hL : w.heap[p.blk]? = some (.loop L)) (s : LoopState) (j : Option Code) :
    ∃ w', (Go.setObj p.blk (.loop { L with state := s, pending := j })).run P w = .ok () w' ∧ SR w0 μ (σ.put l (some (.loop { A with state := s, pending := j }))) w' ∧
      Ext μ σ μ (σ.put l (some (.loop { A with state := s, pending := j }))) := by
  obtain ⟨O, hO, L', e, h1, h2, h3, h4, h5, h6, h7, h8⟩ := h.obj l p _ hp hg
  subst e
  rw [hL] at hO
  injection hO with hO
  injection hO with hO
  subst hO
  exact h.setObj hp hg rfl h8 hL rfl ⟨_, rfl, rfl, rfl, h3, h4, h5, h6, h7, h8⟩

end

theorem R_yield {μ : Mu} {l : Nat} {p : Loc} (hp : μ l = some p) : R μ (.func (.yield l) [] []) (.func (.yield p.blk) #[] #[]) :=
  ⟨.yield p.blk, [], [], ⟨p, hp, rfl⟩, rfl, rfl, rfl⟩

theorem enterLoop_ok {w0 : W0} {μ : Mu} {σ σ' : St} {w : World} {n : Nat} {rnd r : Option Nat} {fn : FuncId} {a a' : AAct} {act : Act} {ps : Array Tmp} {assign body : Code} {l : Nat}
    (he : enterLoopA n rnd fn a ps assign body σ = some (l, a', σ')) (h : SR w0 μ σ w) (ha : RAct μ n a act) (hr : RRound μ rnd r) (fn' : FuncId) :
    ∃ (p : Loc) (mark : List Deferred) (w' : World) (μ' : Mu), (Instr.enterLoop fn' act.tmps ps assign body r).run P w = .ok (p.blk, mark) w' ∧ SR w0 μ' σ' w' ∧ Ext μ σ μ' σ' ∧ μ' l = some p ∧
      RAct μ' n a' { act with defers := mark ++ act.defers } := by
  unfold enterLoopA at he
  split at he
  · cases he
    simp only [RRound] at hr
    subst hr
    obtain ⟨h1, h2⟩ := h.alloc (a := .deferred false) (O := .deferred (some [])) (p := ⟨w.heap.size, 0, 0⟩) rfl ⟨rfl, h.below.new⟩
    have hq : (μ.add σ.next ⟨w.heap.size, 0, 0⟩) σ.next = some ⟨w.heap.size, 0, 0⟩ := Mu.add_same _ _ _
    have hq2 := (μ.add σ.next ⟨w.heap.size, 0, 0⟩).le_add (⟨w.heap.size + 1, 0, 0⟩ : Loc) h1.next_none
    obtain ⟨h3, h4⟩ := h1.alloc (a := .loop { state := .ready, pending := none, fn := fn, ntmps := n, tmps := a.tmps, params := ps, assign := assign, body := body, defers := σ.next })
      (O := .loop { state := .ready, pending := none, fn := fn', tmps := act.tmps, params := ps, assign := assign, body := body, defers := w.heap.size }) (p := ⟨w.heap.size + 1, 0, 0⟩) (by simp)
      ⟨_, rfl, rfl, rfl, RT_mono (Mu.le_trans h2.le hq2) ha.tmps, rfl, rfl, rfl, ⟨⟨w.heap.size, 0, 0⟩, hq2 _ _ hq, rfl⟩, (.inl (Nat.le_succ_of_le h.below.size))⟩
    refine ⟨⟨w.heap.size + 1, 0, 0⟩, [{ target := .collected w.heap.size, args := #[] }], _, _, ?_, h3, h2.trans h4, Mu.add_same _ _ _, ?_⟩
    · simp only [Instr.enterLoop, Sem.run_bind, run_newObj, Result.andThen_ok, Sem.run_pure]
      simp
    · exact ⟨RT_mono (Mu.le_trans h2.le hq2) ha.tmps, .mark (hq2 _ _ hq) (RDs_mono (Mu.le_trans h2.le hq2) ha.defers)⟩
  · rename_i l0
    split at he
    · rename_i L hL
      cases he
      obtain ⟨p0, hp0, rfl⟩ := hr
      obtain ⟨L', h1, h2, h3, h4, h5, h6, h7, ⟨q, hq, hd⟩, h8, h9⟩ := h.loopAt (P := P) hp0 hL
      have hle := μ.le_add (⟨w.heap.size, 0, 0⟩ : Loc) h.next_none
      obtain ⟨k3, k4⟩ := h.alloc (a := .loop { state := .ready, pending := none, fn := fn, ntmps := n, tmps := a.tmps, params := ps, assign := assign, body := body, defers := L.defers })
        (O := .loop { state := .ready, pending := none, fn := fn', tmps := act.tmps, params := ps, assign := assign, body := body, defers := L'.defers }) (p := ⟨w.heap.size, 0, 0⟩) rfl
        ⟨_, rfl, rfl, rfl, RT_mono hle ha.tmps, rfl, rfl, rfl, ⟨q, hle _ _ hq, hd⟩, h.below.new⟩
      refine ⟨⟨w.heap.size, 0, 0⟩, [], _, _, ?_, k3, k4, Mu.add_same _ _ _, ?_⟩
      · simp only [Instr.enterLoop, Sem.run_bind, run_newObj, Result.andThen_ok, Sem.run_pure, h9]
      · exact ⟨RT_mono hle ha.tmps, RDs_mono hle ha.defers⟩
    · cases he

theorem endLoop_ok {w0 : W0} {μ : Mu} {σ σ' : St} {w : World} {l : Nat} {p : Loc} {j : Option Code} (he : endLoopA l σ = some (j, σ')) (h : SR w0 μ σ w) (hp : μ l = some p) :
    ∃ w', (Instr.endLoop p.blk).run P w = .ok j w' ∧ SR w0 μ σ' w' ∧ Ext μ σ μ σ' := by
  unfold endLoopA at he
  split at he
  · rename_i A hA
    obtain ⟨L, h1, h2, h3, _, _, _, _, _, _, h9⟩ := h.loopAt (P := P) hp hA
    obtain ⟨w', k1, k2, k3⟩ := h.setLoop (P := P) hp hA h1 .exhausted A.pending
    split at he
    · cases he
    · rename_i hb
      cases he
      refine ⟨w', ?_, k2, k3⟩
      have hnb : (L.state == LoopState.busy) = false := by
        rw [h2]
        cases hs : A.state <;> first | rfl | exact absurd hs (by intro e; exact hb e)
      simp only [Instr.endLoop, Sem.run_bind, h9, Result.andThen_ok, hnb]
      rw [← h3] at k1
      simp only [Bool.false_eq_true, if_false, Sem.run_bind, Sem.run_pure, h3] at k1 ⊢
      simp only [k1, Result.andThen_ok]
  · cases he

theorem hasBody_ok (hpt : pt.Ok P) {f : FuncId} (h : hasBody pt f = true) : ¬ ∃ fn, P.funcs[f]? = some fn ∧ fn.body = none := by
  unfold hasBody at h
  split at h
  · rename_i fn hf
    split at h
    · rename_i c hc
      rintro ⟨fn', h1, h2⟩
      rw [(hpt.funcs _ _ hf).1] at h1
      cases h1
      rw [hc] at h2; cases h2
    · cases h
  · cases h

theorem exec_ok {call : ACall → St → Option (AEnd × St)} (hcall : CallOk P call) (hpt : pt.Ok P) {n : Nat} {rnd r : Option Nat} {fn : FuncId} {w0 : W0} : ∀ (c : Code) {μ : Mu} {σ σ' : St} {w : World} {a a' : AAct} {act : Act} {e : AExit}
    {Q : Exit → Act → World → Prop}, execA call pt n rnd fn c a σ = some (e, a', σ') → SR w0 μ σ w → RAct μ n a act → RRound μ rnd r →
    (∀ act' w' μ', SR w0 μ' σ' w' → Ext μ σ μ' σ' → RAct μ' n a' act' → Q (toExit e) act' w') → c.wpIn (FR r) 0 P Q act w := by
  intro c
  induction c with
  | skip =>
    intro μ σ σ' w a a' act e Q he h ha hr hQ
    cases he
    exact wpIn_skip (hQ act w μ h (Ext.refl _ _) ha)
  | region id ops draw =>
    intro μ σ σ' w a a' act e Q he h ha hr hQ
    change exRegion call pt n rnd ops draw a σ = _ at he
    unfold exRegion at he
    split at he
    · rename_i a₁ σ₁ hs
      cases he
      exact region_ok hcall hpt hs h ha hr hQ
    · cases he
  | seq x y ihx ihy =>
    intro μ σ σ' w a a' act e Q he h ha hr hQ
    change exSeq (execA call pt n rnd fn x) (execA call pt n rnd fn y) a σ = _ at he
    unfold exSeq at he
    refine wpIn_seq ?_
    split at he
    · rename_i a₁ σ₁ hx
      refine ihx hx h ha hr fun act' w' μ' h1 h2 h3 => ?_
      exact ihy he h1 h3 (hr.mono h2.le) fun act'' w'' μ'' k1 k2 k3 => hQ _ _ _ k1 (h2.trans k2) k3
    · rename_i hne
      refine ihx he h ha hr fun act' w' μ' h1 h2 h3 => ?_
      have := hQ _ _ _ h1 h2 h3
      cases e with
      | normal => exact absurd he (hne _ _)
      | exit j => exact this
      | ret => exact this
  | cond c x y ihx ihy =>
    intro μ σ σ' w a a' act e Q he h ha hr hQ
    change exCond c (execA call pt n rnd fn x) (execA call pt n rnd fn y) a σ = _ at he
    unfold exCond at he
    split at he
    · rename_i hc
      have := ha.op _ _ hc
      exact wpIn_cond_true this (ihx he h ha hr hQ)
    · rename_i hc
      have := ha.op _ _ hc
      exact wpIn_cond_false this (ihy he h ha hr hQ)
    · cases he
  | block id x ih =>
    intro μ σ σ' w a a' act e Q he h ha hr hQ
    change exBlock id (execA call pt n rnd fn x) a σ = _ at he
    unfold exBlock at he
    refine wpIn_block ?_
    split at he
    · rename_i j a₁ σ₁ hx
      split at he
      · rename_i hj
        rw [Nat.beq_eq] at hj
        cases he
        refine ih hx h ha hr fun act' w' μ' h1 h2 h3 => ?_
        show Exit.inBlock id Q (.exit j) act' w'
        simp only [Exit.inBlock, hj, if_true]
        exact hQ _ _ _ h1 h2 h3
      · rename_i hj
        have hj : ¬ j = id := fun e => by subst e; simp at hj
        cases he
        refine ih hx h ha hr fun act' w' μ' h1 h2 h3 => ?_
        show Exit.inBlock id Q (.exit j) act' w'
        simp only [Exit.inBlock, hj, if_false]
        exact hQ _ _ _ h1 h2 h3
    · rename_i hne
      refine ih he h ha hr fun act' w' μ' h1 h2 h3 => ?_
      have := hQ _ _ _ h1 h2 h3
      cases e with
      | normal => exact this
      | exit j => exact absurd he (hne _ _ _)
      | ret => exact this
  | loop x ih =>
    intro μ σ σ' w a a' act e Q he h ha hr hQ
    change exLoop (execA call pt n rnd fn x) a σ = _ at he
    unfold exLoop at he
    split at he
    · rename_i res hl
      cases he
      obtain ⟨m, hm⟩ := loopA_iter hl
      refine wpIn_loop_rounds m ?_
      clear hl
      have key : ∀ (m : Nat) {μ₁ : Mu} {σ₁ : St} {w₁ : World} {a₁ : AAct} {act₁ : Act}, Iter (exRound (execA call pt n rnd fn x)) m (a₁, σ₁) (.inr (e, a', σ')) → SR w0 μ₁ σ₁ w₁ → Ext μ σ μ₁ σ₁ → RAct μ₁ n a₁ act₁ →
          Code.roundsIn (FR r) 0 P x Q m act₁ w₁ := by
        intro m
        induction m with
        | zero => intro μ₁ σ₁ w₁ a₁ act₁ hi; cases hi
        | succ m ihm =>
          intro μ₁ σ₁ w₁ a₁ act₁ hi h1 h2 h3
          rw [roundsIn_succ]
          rcases hi with ⟨⟨a₂, σ₂⟩, hf, hi⟩ | ⟨res, hf, hres⟩
          · unfold exRound at hf
            split at hf <;> first | cases hf | skip
            rename_i hx
            refine ih hx h1 h3 (hr.mono h2.le) fun act' w' μ' k1 k2 k3 => ?_
            exact ihm hi k1 (h2.trans k2) k3
          · cases hres
            unfold exRound at hf
            split at hf <;> first | cases hf | skip
            · rename_i j a₂ σ₂ hx
              refine ih hx h1 h3 (hr.mono h2.le) fun act' w' μ' k1 k2 k3 => ?_
              exact hQ _ _ _ k1 (h2.trans k2) k3
            · rename_i a₂ σ₂ hx
              refine ih hx h1 h3 (hr.mono h2.le) fun act' w' μ' k1 k2 k3 => ?_
              exact hQ _ _ _ k1 (h2.trans k2) k3
      exact key m hm h (Ext.refl _ _) ha
    · cases he
  | rangeFunc f ps assign body _ _ =>
    intro μ σ σ' w a a' act e Q he h ha hr hQ
    change exRange call pt n rnd fn f ps assign body a σ = _ at he
    unfold exRange at he
    split at he
    · rename_i l a₁ σ₁ hen
      split at he
      · rename_i g first captured hf
        split at he
        · rename_i hb
          split at he
          · rename_i v σ₂ hcl
            refine wpIn_rangeFunc fun fn' _ => ?_
            obtain ⟨p, mark, w₁, μ₁, k1, k2, k3, k4, k5⟩ := enterLoop_ok (P := P) hen h ha hr fn'
            obtain ⟨g', ca, cc, hg, hca, hcc, hv⟩ := ha.op _ _ hf
            simp only [fnRel] at hg
            subst hg
            have hargs : RL μ₁ (first ++ ([.func (.yield l) [] []] ++ captured)) (ca ++ ([.func (.yield p.blk) #[] #[]] ++ cc)) :=
              RL_append (RL_mono k3.le _ hca) (RL_append ⟨_, _, R_yield k4, rfl, rfl⟩ (RL_mono k3.le _ hcc))
            have hc := hcall _ σ₁ v σ₂ hcl w0 μ₁ w₁ k2 _ hargs
            simp only [] at hc
            rcases hc with ⟨c1, c2⟩ | ⟨c1, _⟩
            · refine ⟨p.blk, mark, w₁, { target := .fn (.func g) cc.toArray, args := ca.toArray ++ #[Value.func (.yield p.blk) #[] #[]] }, w₁, g, (ca ++ ([Value.func (.yield p.blk) #[] #[]] ++ cc)).toArray, w₁, k1, ?_, fun _ _ => trivial, ?_, fun hd => by simp [FR, Fence.wide] at hd, ?_⟩
              · simp only [resolve, hv, Deferred.ofValue, Sem.run_pure]
                simp [Act.eval]
              · show (invoke (.fn (.func g) cc.toArray) _).run P w₁ = _
                rw [run_invoke_func]
                rw [← c1]
                simp
              · refine (calls_round r c2).mono ?_
                rintro en w₃ ⟨μ₃, cv, rfl, d1, d2, d3⟩
                simp only [rangePost]
                split at he
                · rename_i σ₃ hel
                  cases he
                  obtain ⟨w₄, e1, e2, e3⟩ := endLoop_ok (P := P) hel d1 (d2.le _ _ k4)
                  refine ⟨_, w₄, e1, ?_⟩
                  exact hQ _ _ _ e2 (k3.trans (d2.trans e3)) (k5.mono d2.le)
                · rename_i j σ₃ hel
                  cases he
                  obtain ⟨w₄, e1, e2, e3⟩ := endLoop_ok (P := P) hel d1 (d2.le _ _ k4)
                  refine ⟨_, w₄, e1, ?_⟩
                  exact wpIn_exit (hQ _ _ _ e2 (k3.trans (d2.trans e3)) (k5.mono d2.le))
                · rename_i σ₃ hel
                  cases he
                  obtain ⟨w₄, e1, e2, e3⟩ := endLoop_ok (P := P) hel d1 (d2.le _ _ k4)
                  refine ⟨_, w₄, e1, ?_⟩
                  exact wpIn_ret (hQ _ _ _ e2 (k3.trans (d2.trans e3)) (k5.mono d2.le))
                · cases he
            · exact absurd c1 (hasBody_ok hpt hb)
          · cases he
        · cases he
      · cases he
    · cases he
  | exit id =>
    intro μ σ σ' w a a' act e Q he h ha hr hQ
    cases he
    exact wpIn_exit (hQ act w μ h (Ext.refl _ _) ha)
  | ret =>
    intro μ σ σ' w a a' act e Q he h ha hr hQ
    cases he
    exact wpIn_ret (hQ act w μ h (Ext.refl _ _) ha)
  | scope x _ => intro μ σ σ' w a a' act e Q he; cases he
  | label l => intro μ σ σ' w a a' act e Q he; cases he
  | goto l => intro μ σ σ' w a a' act e Q he; cases he
  | refuse s => intro μ σ σ' w a a' act e Q he; cases he

end Go.AI

/- Soundness, part 20: functions, their deferred calls, rounds; every call. -/
namespace Go.AI
variable {P : Program} {pt : PT}

def readResult (tmps : Array Value) : ResultVar → Sem Value
  | .tmp t => pure (tmps.getD t undef)
  | .cell a t => do loadVar t (← asAddr (tmps.getD a undef))

theorem resultsA_ok (hpt : pt.Ok P) {w0 : W0} {μ : Mu} {σ : St} {w : World} (h : SR w0 μ σ w) {n : Nat} {tm : T V} {c : Array Value} (ht : RT μ n tm c) : ∀ {rs : List ResultVar} {vs : List V}, resultsA pt tm σ rs = some vs →
    ∃ cvs : List Value, (rs.mapM (readResult c)).run P w = .ok cvs w ∧ RL μ vs cvs
  | [], vs, he => by
    simp only [resultsA] at he; cases he
    exact ⟨[], by simp, rfl⟩
  | .tmp t :: rs, vs, he => by
    simp only [resultsA] at he
    split at he
    · rename_i v us hv hu
      cases he
      obtain ⟨cvs, h1, h2⟩ := resultsA_ok hpt h ht hu
      obtain ⟨cv, h3, h4⟩ := ht.2 t v hv
      refine ⟨cv :: cvs, ?_, cv, cvs, h4, h2, rfl⟩
      simp only [List.mapM_cons, readResult, Sem.run_bind, Sem.run_pure, Result.andThen_ok, h1, Array.getD_eq_getD_getElem?, h3, Option.getD_some]
    · cases he
  | .cell a t :: rs, vs, he => by
    simp only [resultsA] at he
    split at he
    · rename_i p hp
      split at he
      · rename_i v us hv hu
        cases he
        obtain ⟨cvs, h1, h2⟩ := resultsA_ok hpt h ht hu
        obtain ⟨ca, h3, h4⟩ := ht.2 a p hp
        have hl : ∃ cv, (do loadVar t (← asAddr ca) : Sem Value).run P w = .ok cv w ∧ R μ v cv := by
          cases p with
          | ptr b o =>
            obtain ⟨q, hq, e⟩ := h4
            subst e
            obtain ⟨cv, h5, h6⟩ := run_loadVar hpt h hv hq
            exact ⟨cv, by simpa only [asAddr, Sem.run_bind, Sem.run_pure, Result.andThen_ok] using h5, h6⟩
          | _ => simp [loadA] at hv
        obtain ⟨cv, h5, h6⟩ := hl
        refine ⟨cv :: cvs, ?_, cv, cvs, h6, h2, rfl⟩
        simp only [List.mapM_cons, readResult, Array.getD_eq_getD_getElem?, h3, Option.getD_some]
        rw [Sem.run_bind, h5]
        simp only [Sem.run_bind, Sem.run_pure, Result.andThen_ok, h1]
      · cases he
    · cases he

theorem results_run (hpt : pt.Ok P) {w0 : W0} {μ : Mu} {σ : St} {w : World} (h : SR w0 μ σ w) {n : Nat} {tm : T V} {c : Array Value} (ht : RT μ n tm c) {fn : Func} {vs : List V} (he : resultsA pt tm σ fn.results.toList = some vs) :
    ∃ cv, (results fn c).run P w = .ok cv w ∧ R μ (oneOf vs) cv := by
  obtain ⟨cvs, h1, h2⟩ := resultsA_ok hpt h ht he
  have hm : (fn.results.mapM (readResult c)).run P w = .ok cvs.toArray w := by
    rw [Array.mapM_eq_mapM_toList]
    simp only [map_eq_pure_bind, Sem.run_bind, h1, Result.andThen_ok, Sem.run_pure]
  have hres : results fn c = (do
      let vs ← fn.results.mapM (readResult c)
      pure (if h : vs.size = 1 then vs[0] else .tuple vs)) := by
    unfold results
    congr 1
  rw [hres]
  simp only [Sem.run_bind, hm, Result.andThen_ok, Sem.run_pure]
  refine ⟨_, rfl, ?_⟩
  have hl := RL_length h2
  cases vs with
  | nil =>
    simp only [RL] at h2; subst h2
    exact ⟨[], rfl, rfl⟩
  | cons v vs =>
    obtain ⟨cv, cvs', h3, h4, rfl⟩ := h2
    cases vs with
    | nil =>
      simp only [RL] at h4; subst h4
      simpa [oneOf] using h3
    | cons v' vs =>
      obtain ⟨cv', cvs'', h5, h6, rfl⟩ := h4
      simp only [oneOf]
      have hne : ¬ (cv :: cv' :: cvs'').toArray.size = 1 := by simp
      rw [dif_neg hne]
      exact ⟨cv :: cv' :: cvs'', ⟨cv, _, h3, ⟨cv', _, h5, h6, rfl⟩, rfl⟩, rfl⟩

theorem RT_args {μ : Mu} {n : Nat} {args : List V} {cargs : List Value} (h : RL μ args cargs) (hn : args.length ≤ n) : RT μ n (T.ofList args) (cargs.toArray ++ Array.replicate (n - cargs.toArray.size) undef) := by
  have hl := RL_length h
  refine ⟨by simp; omega, fun i v hv => ?_⟩
  rw [T.get_ofList] at hv
  obtain ⟨cv, h1, h2⟩ := RL_get h i v hv
  refine ⟨cv, ?_, h2⟩
  have hlt : i < cargs.length := by
    rcases Nat.lt_or_ge i cargs.length with h' | h'
    · exact h'
    · rw [List.getElem?_eq_none h'] at h1; cases h1
  rw [Array.getElem?_append_left (by simpa using hlt)]
  simpa using h1

section
variable {call : ACall → St → Option (AEnd × St)} (hcall : CallOk P call) (hpt : pt.Ok P)
include hcall hpt

theorem body_ok {f : FuncId} {args : List V} {σ σ' : St} {fn : Func} {a : AAct} (he : bodyA call pt f args σ = some (fn, a, σ')) {w0 : W0} {μ : Mu} {w : World} (h : SR w0 μ σ w) {cargs : List Value} (hr : RL μ args cargs) :
    P.funcs[f]? = some fn ∧ (callFunc f cargs.toArray).run P w = .ok (.enter f cargs.toArray) w ∧ ∃ code, fn.body = some code ∧
    ∀ {Q : Exit → Act → World → Prop}, (∀ e act' w' μ', e = .normal ∨ e = .ret → SR w0 μ' σ' w' → Ext μ σ μ' σ' → RAct μ' fn.ntmps a act' → Q e act' w') →
      code.wpIn (FR none) 0 P Q { tmps := cargs.toArray ++ Array.replicate (fn.ntmps - cargs.toArray.size) undef, defers := [] } w := by
  unfold bodyA at he
  split at he
  · rename_i fn₁ hf
    split at he
    · rename_i code hb
      split at he
      · rename_i hle
        obtain ⟨h1, h2⟩ := hpt.funcs _ _ hf
        have fin : ∀ e a₁ σ₁, execA call pt fn₁.ntmps none f code { tmps := T.ofList args, defers := [] } σ = some (e, a₁, σ₁) → (e = .normal ∨ e = .ret) → fn₁ = fn → a₁ = a → σ₁ = σ' → 
            P.funcs[f]? = some fn ∧ (callFunc f cargs.toArray).run P w = .ok (.enter f cargs.toArray) w ∧ ∃ code, fn.body = some code ∧
            ∀ {Q : Exit → Act → World → Prop}, (∀ e act' w' μ', e = .normal ∨ e = .ret → SR w0 μ' σ' w' → Ext μ σ μ' σ' → RAct μ' fn.ntmps a act' → Q e act' w') →
              code.wpIn (FR none) 0 P Q { tmps := cargs.toArray ++ Array.replicate (fn.ntmps - cargs.toArray.size) undef, defers := [] } w := by
          intro e a₁ σ₁ hx hee e1 e2 e3
          subst e1; subst e2; subst e3
          refine ⟨h1, ?_, code, hb, fun {Q} hQ => ?_⟩
          · have hni : fn₁.body.isNone = false := by rw [hb]; rfl
            simp only [callFunc, Sem.run_bind, run_program, Result.andThen_ok, h1]
            simp only [h2, hni, Bool.false_eq_true, if_false, Sem.run_pure]
          · refine exec_ok hcall hpt code hx h ⟨RT_args hr (Nat.le_of_ble_eq_true hle), .nil⟩ (r := none) rfl fun act' w' μ' k1 k2 k3 => ?_
            exact hQ _ _ _ _ (by rcases hee with rfl | rfl <;> simp [toExit]) k1 k2 k3
        split at he
        · rename_i a₁ σ₁ hx
          cases he
          exact fin _ _ _ hx (.inl rfl) rfl rfl rfl
        · rename_i a₁ σ₁ hx
          cases he
          exact fin _ _ _ hx (.inr rfl) rfl rfl rfl
        · cases he
      · cases he
    · cases he
  · cases he

theorem leave_ok {fn : Func} {n : Nat} {w0 : W0} {tm : T V} {ctm : Array Value} {v : V} {σ' : St} {Rr : Ending → World → Prop} : ∀ {ds : List ADefer} {σ : St} {μ : Mu} {w : World} {cds : List Deferred},
    leaveA call pt fn.results.toList tm ds σ = some (.ret v, σ') → SR w0 μ σ w → RT μ n tm ctm → RDs μ ds cds →
    (∀ cv w' μ', SR w0 μ' σ' w' → Ext μ σ μ' σ' → R μ' v cv → Rr (.returned cv) w') → LeavesInM (FR none) 0 P fn ctm Rr cds .returning w
  | [], σ, μ, w, cds, he, h, ht, hd, hR => by
    cases hd
    simp only [leaveA] at he
    split at he
    · rename_i vs hvs
      cases he
      obtain ⟨cv, h1, h2⟩ := results_run hpt h ht hvs
      exact ⟨cv, h1, hR cv w μ h (Ext.refl _ _) h2⟩
    · cases he
  | .mark r :: ds, σ, μ, w, _, he, h, ht, .mark (p := p) (cds := cds) hp hd, hR => by
    simp only [leaveA] at he
    split at he
    · rename_i hg
      obtain ⟨O, hO, e, hfr⟩ := h.obj r p _ hp hg
      subst e
      obtain ⟨w', k1, k2, k3⟩ := h.setObj (P := P) (a := .deferred false) (a' := .deferred true) (O' := .deferred none) hp hg rfl hfr hO rfl ⟨rfl, hfr⟩
      refine ⟨by simp, .inl ⟨p.blk, w', rfl, ?_, ?_⟩⟩
      · simp only [Instr.takeDeferred, Sem.run_bind, run_getObj hO rfl, Result.andThen_ok]
        simp only [Bool.false_eq_true, if_false, Sem.run_bind, k1, Result.andThen_ok, Sem.run_pure]
      · exact leave_ok he k2 ht hd (fun cv w'' μ' q1 q2 q3 => hR cv w'' μ' q1 (k3.trans q2) q3)
    · cases he
  | .call fv cap args :: ds, σ, μ, w, cds0, he, h, ht, hd0, hR => by
    cases hd0
    rename_i f ccap cargs cds hc ha hd
    simp only [leaveA] at he
    split at he
    · rename_i g a σ₁ hb
      split at he
      · rename_i vs hds hvs
        have hargs : RL μ (args ++ cap) (cargs ++ ccap) := RL_append ha hc
        obtain ⟨h1, h2, code, h3, h4⟩ := body_ok hcall hpt hb h hargs
        refine ⟨by simp, .inr ⟨fun hd => by simp [FR, Fence.wide] at hd, .func f, ccap.toArray, f, (cargs ++ ccap).toArray, rfl, ?_, fun _ _ => trivial, ?_⟩⟩
        · rw [run_invoke_func]
          simpa using h2
        · refine CallsDIn.mono (callsDIn_of_wp (R := fun e w' => ∃ cv μ', e = .returned cv ∧ SR w0 μ' σ₁ w' ∧ Ext μ σ μ' σ₁) h1 h3 trivial (h4 fun e act' w' μ' hee q1 q2 q3 => ?_)) ?_
          · have hdn : act'.defers = [] := by
              have := q3.defers
              rw [hds] at this
              generalize act'.defers = x at this
              cases this; rfl
            obtain ⟨cv, h5, h6⟩ := results_run hpt q1 q3.tmps hvs
            rcases hee with rfl | rfl
            · exact ⟨hdn, cv, h5, cv, μ', rfl, q1, q2⟩
            · exact ⟨hdn, cv, h5, cv, μ', rfl, q1, q2⟩
          · rintro e u' w' ⟨rfl, cv, μ', rfl, q1, q2⟩
            show LeavesInM (FR none) 0 P fn ctm Rr cds .returning w'
            exact leave_ok he q1 (RT_mono q2.le ht) (RDs_mono q2.le hd) (fun cv w'' μ'' z1 z2 z3 => hR cv w'' μ'' z1 (q2.trans z2) z3)
      · cases he
    · cases he

end

/-! ### Every call -/

/-- A summary: what it says of calls holds of the program. -/
def SumOk (P : Program) (f : FuncId) (s : List V → St → Option (AEnd × St)) : Prop :=
  ∀ args σ v σ', s args σ = some (.ret v, σ') → ∀ w0 μ w, SR w0 μ σ w → ∀ cargs : List Value, RL μ args cargs →
    ((callFunc f cargs.toArray).run P w = .ok (.enter f cargs.toArray) w ∧ CallsIn (FR none) 0 P f cargs.toArray w (Ends w0 μ σ v σ')) ∨
      ((∃ fn, P.funcs[f]? = some fn ∧ fn.body = none) ∧ ∃ cv w' μ', (callFunc f cargs.toArray).run P w = .ok (.value cv) w' ∧ SR w0 μ' σ' w' ∧ Ext μ σ μ' σ' ∧ R μ' v cv)

theorem setTmps_ok {μ : Mu} {n : Nat} : ∀ {ps : List Tmp} {vs : List V} {cvs : List Value} {t t' : T V} {c : Array Value}, setTmps n ps vs t = some t' → RL μ vs cvs → RT μ n t c →
    cvs.length = ps.length ∧ RT μ n t' ((ps.zip cvs).foldl (fun tmps (x : Tmp × Value) => tmps.setIfInBounds x.1 x.2) c)
  | [], [], cvs, t, t', c, he, hr, ht => by
    simp only [setTmps] at he; cases he
    simp only [RL] at hr; subst hr
    exact ⟨rfl, ht⟩
  | [], _ :: _, cvs, t, t', c, he, _, _ => by simp [setTmps] at he
  | _ :: _, [], cvs, t, t', c, he, _, _ => by simp [setTmps] at he
  | p :: ps, v :: vs, cvs, t, t', c, he, hr, ht => by
    simp only [setTmps] at he
    split at he
    · rename_i hb
      obtain ⟨cv, cvs', h1, h2, rfl⟩ := hr
      obtain ⟨h3, h4⟩ := setTmps_ok he h2 (ht.set (Nat.blt_eq.mp hb) h1)
      exact ⟨by simp [h3], by simpa using h4⟩
    · cases he

theorem yield_ok {call : ACall → St → Option (AEnd × St)} (hcall : CallOk P call) (hpt : pt.Ok P) {l : Nat} {args : List V} {σ : St} {v : V} {σ' : St} {L : ALoop} {tm : T V} {a : AAct} {σ₁ : St} {L' : ALoop} {e : AExit} {a₂ : AAct} {σ₂ : St} {L₂ : ALoop}
    (hg : σ.get l = some (.loop L)) (hset : setTmps L.ntmps L.params.toList args L.tmps = some tm) (has : execA call pt L.ntmps (some l) L.fn L.assign { tmps := tm, defers := [] } σ = some (.normal, a, σ₁))
    (hg' : σ₁.get l = some (.loop L')) (hst : L'.state = .ready) (hbd : execA call pt L.ntmps (some l) L.fn L.body a (σ₁.put l (some (.loop { L' with state := .busy }))) = some (e, a₂, σ₂))
    (hg2 : σ₂.get l = some (.loop L₂))
    (hfin : match (generalizing := false) e with
      | .normal => v = .bool true ∧ σ' = σ₂.put l (some (.loop { L₂ with state := .ready, pending := none }))
      | .exit j => v = .bool false ∧ σ' = σ₂.put l (some (.loop { L₂ with state := .done, pending := some (.exit j) }))
      | .ret => v = .bool false ∧ σ' = σ₂.put l (some (.loop { L₂ with state := .done, pending := some .ret })))
    {w0 : W0} {μ : Mu} {w : World} (h : SR w0 μ σ w) {cargs : List Value} (hr : RL μ args cargs) {p : Loc} (hp : μ l = some p) :
    ∃ f tmps assign body, (Instr.yield p.blk cargs.toArray).run P w = .ok (.round p.blk f tmps assign body) w ∧ RoundIn (FR none) 0 P p.blk f tmps assign body w (Ends w0 μ σ v σ') := by
  obtain ⟨C, c1, c2, c3, c4, c5, c6, c7, c8, c9, c10⟩ := h.loopAt (P := P) hp hg
  obtain ⟨s1, s2⟩ := setTmps_ok hset hr c4
  refine ⟨C.fn, (C.params.zip cargs.toArray).foldl (fun tmps (x : Tmp × Value) => tmps.setIfInBounds x.1 x.2) C.tmps, C.assign, C.body, ?_, ?_⟩
  · have hsz : ¬ cargs.toArray.size ≠ C.params.size := by rw [c5]; simpa using s1
    simp only [Instr.yield, Sem.run_bind, c10, Result.andThen_ok]
    rw [if_neg hsz]
    rfl
  · have hact : RAct μ L.ntmps { tmps := tm, defers := [] } { tmps := (C.params.zip cargs.toArray).foldl (fun tmps (x : Tmp × Value) => tmps.setIfInBounds x.1 x.2) C.tmps, defers := [] } := by
      refine ⟨?_, .nil⟩
      rw [c5]
      have : (L.params.zip cargs.toArray).foldl (fun tmps (x : Tmp × Value) => tmps.setIfInBounds x.1 x.2) C.tmps = (L.params.toList.zip cargs).foldl (fun tmps (x : Tmp × Value) => tmps.setIfInBounds x.1 x.2) C.tmps := by
        rw [← Array.foldl_toList]
        simp
      rw [this]
      exact s2
    rw [c6, c7]
    refine roundIn_of_wpIn trivial ?_
    refine exec_ok (r := some p.blk) hcall hpt L.assign has h hact ⟨p, hp, rfl⟩ fun act₁ w₁ μ₁ k1 k2 k3 => ?_
    show ∃ w₂, (Instr.beginRound p.blk).run P w₁ = .ok () w₂ ∧ L.body.wpIn ((FR none).inRound p.blk) 0 P (roundPost P p.blk (Ends w0 μ σ v σ')) act₁ w₂
    have hp1 := k2.le _ _ hp
    obtain ⟨C', d1, d2, d3, d4, d5, d6, d7, d8, d9, d10⟩ := k1.loopAt (P := P) hp1 hg'
    obtain ⟨w₂, e1, e2, e3⟩ := k1.setLoop (P := P) hp1 hg' d1 .busy L'.pending
    refine ⟨w₂, ?_, ?_⟩
    · rw [← d3] at e1
      simp only [Instr.beginRound, Sem.run_bind, d10, Result.andThen_ok]
      have e1' : (Go.setObj p.blk (.loop { C' with state := .busy })).run P w₁ = .ok () w₂ := e1
      rw [e1']
      simp only [Result.andThen_ok, d2, hst, Sem.run_pure]
    · refine exec_ok (r := some p.blk) hcall hpt L.body hbd e2 (k3.mono e3.le) ⟨p, hp1, rfl⟩ fun act₂ w₃ μ₃ q1 q2 q3 => ?_
      have hp3 := q2.le _ _ hp1
      obtain ⟨C2, r1, r2, r3, r4, r5, r6, r7, r8, r9, r10⟩ := q1.loopAt (P := P) hp3 hg2
      have hend : ∀ (s : LoopState) (j : Option Code), s = (if j.isNone then .ready else .done) → ∃ w₄, (Instr.endRound p.blk j).run P w₃ = .ok (.bool j.isNone) w₄ ∧
          SR w0 μ₃ (σ₂.put l (some (.loop { L₂ with state := s, pending := j }))) w₄ ∧ Ext μ₃ σ₂ μ₃ (σ₂.put l (some (.loop { L₂ with state := s, pending := j }))) := by
        intro s j hs
        obtain ⟨w₄, z1, z2, z3⟩ := q1.setLoop (P := P) hp3 hg2 r1 s j
        refine ⟨w₄, ?_, z2, z3⟩
        rw [hs] at z1
        simp only [Instr.endRound, Sem.run_bind, r10, Result.andThen_ok, z1, Sem.run_pure]
      have hext := k2.trans (e3.trans q2)
      cases e with
      | normal =>
        obtain ⟨rfl, rfl⟩ := hfin
        obtain ⟨w₄, z1, z2, z3⟩ := hend .ready none rfl
        exact ⟨_, w₄, z1, μ₃, _, rfl, z2, hext.trans z3, rfl⟩
      | exit j =>
        obtain ⟨rfl, rfl⟩ := hfin
        obtain ⟨w₄, z1, z2, z3⟩ := hend .done (some (.exit j)) rfl
        exact ⟨_, w₄, z1, μ₃, _, rfl, z2, hext.trans z3, rfl⟩
      | ret =>
        obtain ⟨rfl, rfl⟩ := hfin
        obtain ⟨w₄, z1, z2, z3⟩ := hend .done (some .ret) rfl
        exact ⟨_, w₄, z1, μ₃, _, rfl, z2, hext.trans z3, rfl⟩

theorem callN_ok (hpt : pt.Ok P) {sm : Sums} (hsm : ∀ f s, sm f = some s → SumOk P f s) : ∀ k, CallOk P (callN pt sm k) := by
  intro k
  induction k with
  | zero => intro c σ v σ' he; simp [callN] at he
  | succ k ih =>
    intro c σ v σ' he w0 μ w h cargs hr
    obtain ⟨fv, args⟩ := c
    cases fv with
    | func f =>
      simp only [callN] at he
      split at he
      · rename_i r hs
        cases he
        unfold saysA at hs
        split at hs
        · rename_i s hs'
          exact hsm f s hs' _ _ _ _ hs w0 μ w h cargs hr
        · cases hs
      · split at he
        · rename_i fn a σ₁ hb
          obtain ⟨h1, h2, code, h3, h4⟩ := body_ok ih hpt hb h hr
          refine .inl ⟨h2, callsIn_of_wp_marks h1 h3 trivial (h4 fun e act' w' μ' hee q1 q2 q3 => ?_)⟩
          have := leave_ok (n := fn.ntmps) (Rr := Ends w0 μ σ v σ') ih hpt he q1 q3.tmps q3.defers (fun cv w'' μ'' z1 z2 z3 => ⟨μ'', cv, rfl, z1, q2.trans z2, z3⟩)
          rcases hee with rfl | rfl <;> exact this
        · cases he
    | yield l =>
      intro p hp
      simp only [callN] at he
      split at he
      · rename_i L hg
        split at he
        · rename_i tm hset
          split at he
          · rename_i a σ₁ has
            split at he
            · rename_i L' hg'
              split at he
              · rename_i hst
                split at he
                · rename_i e a₂ σ₂ hbd
                  split at he
                  · rename_i L₂ hg2
                    refine yield_ok ih hpt hg hset has hg' hst hbd hg2 ?_ h hr hp
                    cases e <;> (simp only [] at he; have he := Option.some.inj he; injection he with e1 e2; injection e1 with e1; exact ⟨e1.symm, e2.symm⟩)
                  · cases he
                · cases he
              · cases he
            · cases he
          · cases he
        · cases he
      · cases he
    | method m => simp only [callN] at he; cases he
    | methodOf t m => simp only [callN] at he; cases he
    | via t p f b => simp only [callN] at he; cases he

end Go.AI

/- Calls run once, in a small state that holds what they touch, and then answered in each larger state. -/
namespace Go.AI
variable {P : Program} {pt : PT}
noncomputable section

/-! ### Equal blocks -/

def sameE (a b : AEntry) : Bool := sameV a.key b.key && sameV a.val b.val && Nat.beq a.born b.born
def sameEs : List AEntry → List AEntry → Bool
  | [], [] => true
  | x :: xs, y :: ys => sameE x y && sameEs xs ys
  | _, _ => false
def sameObj : AObj → AObj → Bool
  | .cells false a, .cells false b => sameVs a b
  | .map es c, .map es' c' => sameEs es es' && Nat.beq c c'
  | .iter s p, .iter s' p' => eqBytes s s' && Nat.beq p p'
  | .deferred true, .deferred true => true
  | .deferred false, .deferred false => true
  | .boxed a, .boxed b => sameV a b
  | _, _ => false

theorem sameE_eq (a b : AEntry) (h : sameE a b = true) : a = b := by
  obtain ⟨k, v, n⟩ := a
  obtain ⟨k', v', n'⟩ := b
  simp only [sameE, Bool.and_eq_true, Nat.beq_eq] at h
  rw [sameV_eq _ _ h.1.1, sameV_eq _ _ h.1.2, h.2]
theorem sameEs_eq : ∀ (a b : List AEntry), sameEs a b = true → a = b
  | [], [], _ => rfl
  | [], _ :: _, h => by simp [sameEs] at h
  | _ :: _, [], h => by simp [sameEs] at h
  | x :: xs, y :: ys, h => by
    simp only [sameEs, Bool.and_eq_true] at h
    rw [sameE_eq _ _ h.1, sameEs_eq _ _ h.2]
theorem sameObj_eq : ∀ (a b : AObj), sameObj a b = true → a = b ∧ a.ro = false
  | a, b, h => by
    unfold sameObj at h
    split at h
    · rw [sameVs_eq _ _ h]; exact ⟨rfl, rfl⟩
    · simp only [Bool.and_eq_true, Nat.beq_eq] at h
      rw [sameEs_eq _ _ h.1, h.2]; exact ⟨rfl, rfl⟩
    · simp only [Bool.and_eq_true, Nat.beq_eq, eqBytes_iff, beq_iff_eq] at h
      rw [h.1, h.2]; exact ⟨rfl, rfl⟩
    · exact ⟨rfl, rfl⟩
    · exact ⟨rfl, rfl⟩
    · rw [sameV_eq _ _ h]; exact ⟨rfl, rfl⟩
    · cases h

def sameAt (o : Option AObj) (a : AObj) : Bool :=
  match o with
  | some b => sameObj b a
  | none => false
theorem sameAt_eq {o : Option AObj} {a : AObj} (h : sameAt o a = true) : o = some a ∧ a.ro = false := by
  unfold sameAt at h
  split at h
  · obtain ⟨rfl, h2⟩ := sameObj_eq _ _ h; exact ⟨rfl, h2⟩
  · cases h

/-! ### The run -/

structure Seg where
  args : List V
  next : Nat
  ins : List (Nat × AObj)
  res : V
  last : Nat
  outs : List (Nat × Option AObj)

def layIns : List (Nat × AObj) → T AObj → T AObj
  | [], t => t
  | (b, a) :: l, t => layIns l (t.set b a)
def layOuts : List (Nat × Option AObj) → T AObj → T AObj
  | [], t => t
  | (b, o) :: l, t => layOuts l (t.put b o)

def Seg.start (s : Seg) : St := { heap := layIns s.ins .nil, next := s.next }

def hasKey {α : Type} (b : Nat) : List (Nat × α) → Bool
  | [] => false
  | (c, _) :: l => match Nat.beq b c with
    | true => true
    | false => hasKey b l

/-- All keys lie below. -/
def keysBelow {α : Type} (n : Nat) : List (Nat × α) → Bool
  | [] => true
  | (c, _) :: l => Nat.blt c n && keysBelow n l

/-- What is told behind the run holds; of blocks that are told of behind it nothing is asked here. -/
def keptIns (σ : St) (outs : List (Nat × Option AObj)) : List (Nat × AObj) → Bool
  | [] => true
  | (b, a) :: l => (match hasKey b outs with
    | true => true
    | false => sameAt (σ.get b) a) && keptIns σ outs l
def madeOuts (σ : St) (n : Nat) (ins : List (Nat × AObj)) : List (Nat × Option AObj) → Bool
  | [] => true
  | (b, o) :: l => (match o with
    | some a => sameAt (σ.get b) a
    | none => match σ.get b with
      | none => true
      | some _ => false) && ((match Nat.blt b n with
    | true => hasKey b ins
    | false => true) && madeOuts σ n ins l)

def Seg.runs (pt : PT) (sm : Sums) (k : Nat) (f : FuncId) (s : Seg) : Bool :=
  match callF pt sm k { fn := .func f, args := s.args } s.start with
  | some (.ret v, σ) => sameV v s.res && (Nat.beq σ.next s.last && (keptIns σ s.outs s.ins && (madeOuts σ s.next s.ins s.outs && (keysBelow s.next s.ins && keysBelow s.last s.outs))))
  | none => false

def holdsIns (σ : St) : List (Nat × AObj) → Bool
  | [] => true
  | (b, a) :: l => sameAt (σ.get b) a && holdsIns σ l

/-- The summary. -/
def Seg.says (s : Seg) (args : List V) (σ : St) : Option (AEnd × St) :=
  match Nat.beq σ.next s.next && (sameVs args s.args && holdsIns σ s.ins) with
  | true => some (.ret s.res, { heap := layOuts s.outs σ.heap, next := s.last })
  | false => none

theorem layIns_get : ∀ (l : List (Nat × AObj)) (t : T AObj) (b : Nat) (a : AObj), (layIns l t).get b = some a → (b, a) ∈ l ∨ t.get b = some a
  | [], _, _, _, h => .inr h
  | (c, x) :: l, t, b, a, h => by
    rcases layIns_get l (t.set c x) b a h with h1 | h1
    · exact .inl (List.mem_cons_of_mem _ h1)
    · rw [T.get_set] at h1
      split at h1
      · rename_i e; cases h1; subst e; exact .inl (List.mem_cons_self ..)
      · exact .inr h1

theorem layIns_none : ∀ (l : List (Nat × AObj)) (t : T AObj) (b : Nat), (layIns l t).get b = none → hasKey b l = false ∧ t.get b = none
  | [], _, _, h => ⟨rfl, h⟩
  | (c, x) :: l, t, b, h => by
    obtain ⟨h1, h2⟩ := layIns_none l (t.set c x) b h
    rw [T.get_set] at h2
    split at h2
    · cases h2
    · rename_i hne
      have hb : Nat.beq b c = false := by
        cases hb : Nat.beq b c with
        | true => exact absurd (Nat.eq_of_beq_eq_true hb) hne
        | false => rfl
      refine ⟨?_, h2⟩
      simp only [hasKey, hb]; exact h1

theorem layOuts_get : ∀ (l : List (Nat × Option AObj)) (t : T AObj) (b : Nat), ((b, (layOuts l t).get b) ∈ l) ∨ ((layOuts l t).get b = t.get b ∧ hasKey b l = false)
  | [], _, _ => .inr ⟨rfl, rfl⟩
  | (c, x) :: l, t, b => by
    rcases layOuts_get l (t.put c x) b with h1 | ⟨h1, h2⟩
    · exact .inl (List.mem_cons_of_mem _ h1)
    · simp only [layOuts]
      rw [T.get_put] at h1
      split at h1
      · rename_i e; subst e; rw [h1]; exact .inl (List.mem_cons_self ..)
      · rename_i hne
        have hb : Nat.beq b c = false := by
          cases hb : Nat.beq b c with
          | true => exact absurd (Nat.eq_of_beq_eq_true hb) hne
          | false => rfl
        exact .inr ⟨h1, by simp only [hasKey, hb]; exact h2⟩

theorem holdsIns_mem {σ : St} : ∀ {l : List (Nat × AObj)}, holdsIns σ l = true → ∀ {b : Nat} {a : AObj}, (b, a) ∈ l → σ.get b = some a ∧ a.ro = false
  | (c, x) :: l, h, b, a, hm => by
    simp only [holdsIns, Bool.and_eq_true] at h
    rcases List.mem_cons.1 hm with e | hm
    · cases e; exact sameAt_eq h.1
    · exact holdsIns_mem h.2 hm

theorem keptIns_mem {σ : St} {outs : List (Nat × Option AObj)} : ∀ {l : List (Nat × AObj)}, keptIns σ outs l = true → ∀ {b : Nat} {a : AObj}, (b, a) ∈ l → hasKey b outs = false → σ.get b = some a
  | (c, x) :: l, h, b, a, hm, hk => by
    simp only [keptIns, Bool.and_eq_true] at h
    rcases List.mem_cons.1 hm with e | hm
    · cases e
      have h1 := h.1
      rw [hk] at h1
      exact (sameAt_eq h1).1
    · exact keptIns_mem h.2 hm hk

theorem madeOuts_mem {σ : St} {n : Nat} {ins : List (Nat × AObj)} : ∀ {l : List (Nat × Option AObj)}, madeOuts σ n ins l = true → ∀ {b : Nat} {o : Option AObj}, (b, o) ∈ l → σ.get b = o ∧ (b < n → hasKey b ins = true) ∧ ∀ a, o = some a → a.ro = false
  | (c, x) :: l, h, b, o, hm => by
    simp only [madeOuts, Bool.and_eq_true] at h
    rcases List.mem_cons.1 hm with e | hm
    · cases e
      refine ⟨?_, fun hb => ?_, fun a ha => ?_⟩
      · have h1 := h.1
        split at h1
        · exact (sameAt_eq h1).1
        · split at h1
          · assumption
          · cases h1
      · have h1 := h.2.1
        rw [Nat.blt_eq.mpr hb] at h1
        exact h1
      · subst ha
        exact (sameAt_eq h.1).2
    · exact madeOuts_mem h.2.2 hm

theorem hasKey_mem {α : Type} : ∀ {l : List (Nat × α)} {b : Nat} {a : α}, (b, a) ∈ l → hasKey b l = true
  | (c, x) :: l, b, a, hm => by
    simp only [hasKey]
    rcases List.mem_cons.1 hm with e | hm
    · cases e
      have : Nat.beq c c = true := by simp
      rw [this]
    · split
      · rfl
      · exact hasKey_mem hm

theorem hasKey_ex {α : Type} : ∀ {l : List (Nat × α)} {b : Nat}, hasKey b l = true → ∃ a, (b, a) ∈ l
  | [], b, h => by simp [hasKey] at h
  | (c, x) :: l, b, h => by
    simp only [hasKey] at h
    split at h
    · rename_i hb
      have := Nat.eq_of_beq_eq_true hb
      subst this
      exact ⟨x, List.mem_cons_self ..⟩
    · obtain ⟨a, ha⟩ := hasKey_ex h
      exact ⟨a, List.mem_cons_of_mem _ ha⟩

theorem keysBelow_mem {α : Type} {n : Nat} : ∀ {l : List (Nat × α)}, keysBelow n l = true → ∀ {b a}, (b, a) ∈ l → b < n
  | (c, x) :: l, h, b, a, hm => by
    simp only [keysBelow, Bool.and_eq_true] at h
    rcases List.mem_cons.1 hm with e | hm
    · cases e; exact Nat.blt_eq.mp h.1
    · exact keysBelow_mem h.2 hm

/-- The blocks that the small run may write. -/
def freeOf (μ : Mu) (S : St) (w : World) : W0 := ⟨w, fun c => ∃ b p a, μ b = some p ∧ S.get b = some a ∧ p.blk = c⟩

/-- What the small run's end says of the large state. -/
theorem seg_lift {s : Seg} {σ : St} {σf : St} {w0 : W0} {μ : Mu} {w : World} (h : SR w0 μ σ w) (hn : σ.next = s.next) (hi : holdsIns σ s.ins = true) (hlast : σf.next = s.last)
    (hk : keptIns σf s.outs s.ins = true) (ho : madeOuts σf s.next s.ins s.outs = true) (hbi : keysBelow s.next s.ins = true) (hbo : keysBelow s.last s.outs = true) :
    SR (freeOf μ s.start w) μ s.start w ∧ ∀ {μ' w'}, SR (freeOf μ s.start w) μ' σf w' → Ext μ s.start μ' σf →
      SR w0 μ' { heap := layOuts s.outs σ.heap, next := s.last } w' ∧ Ext μ σ μ' { heap := layOuts s.outs σ.heap, next := s.last } := by
  have hS : ∀ b a, s.start.get b = some a → (b, a) ∈ s.ins ∧ σ.get b = some a ∧ a.ro = false := fun b a hb => by
    rcases layIns_get s.ins .nil b a hb with h1 | h1
    · exact ⟨h1, holdsIns_mem hi h1⟩
    · simp at h1
  have hSn : ∀ b, s.start.get b = none → hasKey b s.ins = false := fun b hb => (layIns_none s.ins .nil b hb).1
  refine ⟨⟨⟨rfl, rfl, rfl, Nat.le_refl _, fun _ _ _ => rfl⟩, fun b p hp => ?_, fun b hb => ?_, fun b p a hp ha => ?_, fun b c p q a d hp hq ha hd hro hne => ?_⟩, ?_⟩
  · show b < s.next ∧ _
    rw [← hn]; exact h.lt b p hp
  · cases hg : s.start.get b with
    | none => rfl
    | some a =>
      have := keysBelow_mem hbi (hS b a hg).1
      exact absurd hb (Nat.not_le.2 this)
  · obtain ⟨_, h2, h3⟩ := hS b a ha
    obtain ⟨o, ho, hr⟩ := h.obj b p a hp h2
    refine ⟨o, ho, ?_⟩
    have hm : (freeOf μ s.start w).may p.blk := .inr ⟨b, p, a, hp, ha, rfl⟩
    cases a with
    | cells ro cs =>
      obtain ⟨c, e, fr, k1, k2, k3, k4⟩ := hr
      exact ⟨c, e, fr, k1, k2, k3, fun h => ⟨hm, (k4 h).2⟩⟩
    | map es clock =>
      obtain ⟨ces, k1, k2, _⟩ := hr
      exact ⟨ces, k1, k2, hm⟩
    | loop l =>
      obtain ⟨L, k1, k2, k3, k4, k5, k6, k7, k8, _⟩ := hr
      exact ⟨L, k1, k2, k3, k4, k5, k6, k7, k8, hm⟩
    | deferred t => exact ⟨hr.1, hm⟩
    | iter s' pos => exact ⟨hr.1, hr.2.1, hm⟩
    | boxed v => exact ⟨hr.1, hr.2.1, hm⟩
  · exact h.inj b c p q a d hp hq (hS b a ha).2.1 (hS c d hd).2.1 hro hne
  · intro μ' w' hf hx
    have hmono := hx.le
    have hsz := hf.below.size
    have hsz : w.heap.size ≤ w'.heap.size := hsz
    -- of each block of the end: it is the small run's, or it was not touched
    have split2 : ∀ b p a, μ' b = some p → (layOuts s.outs σ.heap).get b = some a →
        (σf.get b = some a ∧ a.ro = false) ∨ (b < σ.next ∧ μ b = some p ∧ σ.get b = some a ∧ s.start.get b = none) := by
      intro b p a hp ha
      rcases layOuts_get s.outs σ.heap b with h1 | ⟨h1, h2⟩
      · rw [ha] at h1
        exact .inl ⟨(madeOuts_mem ho h1).1, (madeOuts_mem ho h1).2.2 a rfl⟩
      · rw [ha] at h1
        have hσ : σ.get b = some a := h1.symm
        have hb : b < σ.next := by
          rcases Nat.lt_or_ge b σ.next with h' | h'
          · exact h'
          · rw [h.out b h'] at hσ; cases hσ
        cases hg : s.start.get b with
        | some a' =>
          obtain ⟨k1, k2, k3⟩ := hS b a' hg
          rw [k2] at hσ
          cases hσ
          exact .inl ⟨keptIns_mem hk k1 h2, k3⟩
        | none =>
          refine .inr ⟨hb, ?_, hσ, rfl⟩
          cases hμ : μ b with
          | none => rw [(hx.unm b (by rw [hn] at hb; exact hb) hμ).1] at hp; cases hp
          | some q => rw [hmono _ _ hμ] at hp; exact hp
    -- blocks that were not touched stay, apart from the others
    have notFree : ∀ b p a, μ b = some p → σ.get b = some a → s.start.get b = none → ¬ (freeOf μ s.start w).free p.blk := by
      rintro b p a hp ha hb ⟨b', p', a', hp', ha', e⟩
      obtain ⟨_, k2, k3⟩ := hS b' a' ha'
      refine h.inj b' b p' p a' a hp' hp k2 ha k3 (fun e => ?_) e
      subst e; rw [ha'] at hb; cases hb
    have mayOld : ∀ c, (freeOf μ s.start w).may c → c < w.heap.size → ∃ b p a, μ b = some p ∧ s.start.get b = some a ∧ p.blk = c := by
      rintro c (h1 | ⟨b, p, a, h1, h2, h3⟩) hc
      · exact absurd hc (Nat.not_lt.2 h1)
      · exact ⟨b, p, a, h1, h2, h3⟩
    have mayUp : ∀ c, (freeOf μ s.start w).may c → w0.may c := by
      rintro c (h1 | ⟨b, p, a, h1, h2, h3⟩)
      · exact .inl (Nat.le_trans h.below.size h1)
      · obtain ⟨_, k2, k3⟩ := hS b a h2
        obtain ⟨o, _, hr⟩ := h.obj b p a h1 k2
        rw [← h3]
        cases a with
        | cells ro cs => obtain ⟨c, e, fr, _, _, _, k4⟩ := hr; cases ro <;> first | exact (k4 rfl).1 | cases k3
        | map es clock => obtain ⟨ces, _, _, k⟩ := hr; exact k
        | loop l => obtain ⟨L, _, _, _, _, _, _, _, _, k⟩ := hr; exact k
        | deferred t => exact hr.2
        | iter s' pos => exact hr.2.2
        | boxed v => exact hr.2.2
    have apart : ∀ b c p q a d, σf.get b = some a → μ' b = some p → a.ro = false → μ c = some q → σ.get c = some d → s.start.get c = none → p.blk ≠ q.blk := by
      intro b c p q a d ha hp hro hq hd hc e
      obtain ⟨o, _, hr⟩ := hf.obj b p a hp ha
      have hm : (freeOf μ s.start w).may p.blk := by
        cases a with
        | cells ro cs => obtain ⟨_, _, _, _, _, _, k4⟩ := hr; cases ro <;> first | exact (k4 rfl).1 | cases hro
        | map es clock => obtain ⟨ces, _, _, k⟩ := hr; exact k
        | loop l => obtain ⟨L, _, _, _, _, _, _, _, _, k⟩ := hr; exact k
        | deferred t => exact hr.2
        | iter s' pos => exact hr.2.2
        | boxed v => exact hr.2.2
      have hlt := (h.lt c q hq).2
      obtain ⟨b', p', a', k1, k2, k3⟩ := mayOld _ hm (by rw [e]; exact hlt)
      exact notFree c q d hq hd hc ⟨b', p', a', k1, k2, k3.trans e⟩
    refine ⟨⟨?_, fun b p hp => ?_, fun b hb => ?_, fun b p a hp ha => ?_, fun b c p q a d hp hq ha hd hro hne => ?_⟩, ⟨hmono, ?_, fun b hb hμ => ?_⟩⟩
    · refine ⟨hf.below.os.trans h.below.os, hf.below.tape.trans h.below.tape, hf.below.output.trans h.below.output, Nat.le_trans h.below.size hsz, fun c hc hfr => ?_⟩
      have hc2 : c < w.heap.size := Nat.lt_of_lt_of_le hc h.below.size
      rw [hf.below.block c hc2 (fun hfree => ?_)]
      · exact h.below.block c hc hfr
      · rcases mayUp c (.inr hfree) with h1 | h1
        · exact absurd hc (Nat.not_lt.2 h1)
        · exact hfr h1
    · have := hf.lt b p hp
      rw [hlast] at this; exact this
    · show (layOuts s.outs σ.heap).get b = none
      have hb : s.last ≤ b := hb
      rcases layOuts_get s.outs σ.heap b with h1 | ⟨h1, _⟩
      · exact absurd hb (Nat.not_le.2 (keysBelow_mem hbo h1))
      · rw [h1]
        refine h.out b ?_
        have := hx.next
        have h2 : s.start.next = s.next := rfl
        rw [hlast, h2] at this
        omega
    · rcases split2 b p a hp ha with ⟨h1, _⟩ | ⟨hb, hp1, h1, h2⟩
      · obtain ⟨o, ho, hr⟩ := hf.obj b p a hp h1
        refine ⟨o, ho, ?_⟩
        cases a with
        | cells ro cs =>
          obtain ⟨c, e, fr, k1, k2, k3, k4⟩ := hr
          exact ⟨c, e, fr, k1, k2, k3, fun h => ⟨mayUp _ (k4 h).1, (k4 h).2⟩⟩
        | map es clock =>
          obtain ⟨ces, k1, k2, k3⟩ := hr
          exact ⟨ces, k1, k2, mayUp _ k3⟩
        | loop l =>
          obtain ⟨L, k1, k2, k3, k4, k5, k6, k7, k8, k9⟩ := hr
          exact ⟨L, k1, k2, k3, k4, k5, k6, k7, k8, mayUp _ k9⟩
        | deferred t => exact ⟨hr.1, mayUp _ hr.2⟩
        | iter s' pos => exact ⟨hr.1, hr.2.1, mayUp _ hr.2.2⟩
        | boxed v => exact ⟨hr.1, hr.2.1, mayUp _ hr.2.2⟩
      · obtain ⟨o, ho, hr⟩ := h.obj b p a hp1 h1
        refine ⟨o, ?_, RObj_mono hmono hr⟩
        rw [hf.below.block _ (h.lt b p hp1).2 (notFree b p a hp1 h1 h2)]; exact ho
    · rcases split2 b p a hp ha with ⟨h1, _⟩ | ⟨hb, hp1, h1, h2⟩
      · rcases split2 c q d hq hd with ⟨k1, _⟩ | ⟨hc, hq1, k1, k2⟩
        · exact hf.inj b c p q a d hp hq h1 k1 hro hne
        · exact apart b c p q a d h1 hp hro hq1 k1 k2
      · rcases split2 c q d hq hd with k1 | ⟨hc, hq1, k1, k2⟩
        · intro e
          exact apart c b q p d a k1.1 hq k1.2 hp1 h1 h2 e.symm
        · exact h.inj b c p q a d hp1 hq1 h1 k1 hro hne
    · have := hx.next
      have h2 : s.start.next = s.next := rfl
      rw [hlast, h2] at this
      show σ.next ≤ s.last
      omega
    · obtain ⟨k1, k2⟩ := hx.unm b (by rw [hn] at hb; exact hb) hμ
      refine ⟨k1, ?_⟩
      show (layOuts s.outs σ.heap).get b = σ.heap.get b
      rcases layOuts_get s.outs σ.heap b with n1 | ⟨n1, n2⟩
      · obtain ⟨m1, m2⟩ := madeOuts_mem ho n1
        obtain ⟨a, ha⟩ := hasKey_ex (m2.1 (by rw [← hn]; exact hb))
        have ha2 := (holdsIns_mem hi ha).1
        cases hg : s.start.get b with
        | none => cases (hSn b hg).symm.trans (hasKey_mem ha)
        | some a' =>
          obtain ⟨_, q2, _⟩ := hS b a' hg
          exact m1.symm.trans (k2.trans (hg.trans q2.symm))
      · exact n1

theorem seg_ok (hpt : pt.Ok P) {sm : Sums} (hsm : ∀ f s, sm f = some s → SumOk P f s) {k : Nat} {f : FuncId} {s : Seg} (hrun : s.runs pt sm k f = true) : SumOk P f s.says := by
  intro args σ v σ' he w0 μ w h cargs hr
  unfold Seg.says at he
  split at he
  · rename_i hc
    simp only [Bool.and_eq_true, Nat.beq_eq] at hc
    obtain ⟨hc1, hc2, hc3⟩ := hc
    have hc2 := sameVs_eq _ _ hc2
    have he := Option.some.inj he
    injection he with he1 he2
    injection he1 with he1
    subst he1; subst he2; subst hc2
    unfold Seg.runs at hrun
    split at hrun
    · rename_i v0 σ0 hcall
      simp only [Bool.and_eq_true, Nat.beq_eq] at hrun
      obtain ⟨r1, r2, r3, r4, r5, r6⟩ := hrun
      have r1 := sameV_eq _ _ r1
      subst r1
      rw [callF_eq] at hcall
      obtain ⟨hS, hup⟩ := seg_lift h hc1 hc3 r2 r3 r4 r5 r6
      have hok := callN_ok hpt hsm k _ _ _ _ hcall _ μ w hS cargs hr
      simp only [] at hok
      rcases hok with ⟨c1, c2⟩ | ⟨c1, cv, w', μ2, c2, c3, c4, c5⟩
      · refine .inl ⟨c1, c2.mono ?_⟩
        rintro e w' ⟨μ2, cv, rfl, k1, k2, k3⟩
        obtain ⟨z1, z2⟩ := hup k1 k2
        exact ⟨μ2, cv, rfl, z1, z2, k3⟩
      · obtain ⟨z1, z2⟩ := hup c3 c4
        exact .inr ⟨c1, cv, w', μ2, c2, z1, z2, c5⟩
    · cases hrun
  · cases he

end
end Go.AI

/- From a run of the abstract interpreter to the contract of a call, and to what a row asks. -/
namespace Go.AI
open Go.ChangeShapes Go.WideShapes Go.ChangeAt Go.RowKit
variable {P : Program} {pt : PT}

noncomputable def st0 : St := { heap := .nil, next := 0 }
def mu0 : Mu := fun _ => none

theorem sr0 (w : World) : SR (.of w) mu0 st0 w where
  below := W0.of_below w
  lt := fun _ _ h => by cases h
  out := fun _ _ => rfl
  obj := fun _ _ _ h => by cases h
  inj := fun _ _ _ _ _ _ h => by cases h

theorem calls_of_run (hpt : pt.Ok P) {sm : Sums} (hsm : ∀ f s, sm f = some s → SumOk P f s) {k : Nat} {f : FuncId} {args : List V} {cargs : List Value} {v : V} {σ' : St}
    (hb : hasBody pt f = true) (he : callN pt sm k { fn := .func f, args := args } st0 = some (.ret v, σ')) (hr : RL mu0 args cargs) (w : World) :
    Calls P f cargs.toArray w fun e w' => ∃ μ cv, e = .returned cv ∧ R μ v cv ∧ Below w.heap.size w w' := by
  have := callN_ok hpt hsm k _ _ _ _ he (.of w) mu0 w (sr0 w) cargs hr
  rcases this with ⟨_, h⟩ | ⟨h, _⟩
  · refine (CallsIn.calls h (fr_room none)).mono ?_
    rintro e w' ⟨μ, cv, rfl, h1, _, h3⟩
    exact ⟨μ, cv, rfl, h3, h1.below.plain⟩
  · exact absurd h (hasBody_ok hpt hb)

theorem keptBut_of_below {w w' : World} (h : Below w.heap.size w w') (may : MemPlace → Prop) : w.keptBut w' may := by
  refine ⟨h.os, h.output, fun i hi => ?_⟩
  rw [h.block i hi]
  cases w.heap[i]? with
  | none => rfl
  | some o => cases o <;> first | exact rfl | exact ⟨rfl, rfl, rfl, fun _ _ => rfl⟩ | exact .inr ⟨rfl, rfl⟩

/-- A call whose arguments name no memory, and that turns nothing that was there. -/
theorem post_of_below {H : Type} {enc : TypeId × Value → H} {f : Func} {s : ChangeSpec} {apart fresh handsOn again : Bool} {W W' : World} {args : Array Value} {v : Value} {ds gs : List (DataW H)}
    (hW : DataW.Whole enc P f.params.toList s.vars apart W args.toList ds gs [])
    (hres : ∀ (b : Nat) (sp : Nat → Bool) (hd : Bool), DataW.TrodAll enc P W' b sp hd f.resultTypes.toList (v.resultList f.resultTypes.size) (s.fn H (ds ++ gs)).results [])
    (hargs : ∀ sp : Nat → Bool, DataW.TrodAll enc P W' 0 sp true f.params.toList args.toList (s.fn H (ds ++ gs)).args [])
    (hvars : ∀ sp : Nat → Bool, DataW.TrodVars enc P W' sp s.vars (s.fn H (ds ++ gs)).vars [])
    (hb : Below W.heap.size W W')
    (hok : ∀ (j : Nat) (t : TypeId) (r : Value), f.resultTypes[j]? = some t → (v.resultList f.resultTypes.size)[j]? = some r → Value.okWide P W' .any 0 t r) :
    s.post enc P f apart fresh handsOn again W args v W' := by
  refine ⟨ds, gs, [], [], [], [], hW, hres _ _ _, hargs _, hvars _, keptBut_of_below hb _, fun _ => ⟨hok, _, _, [], ⟨[], [], trodAll_append (hargs _) (hres _ _ _), hvars _, rfl, ?_, ?_⟩, ?_⟩⟩
  · intro b off hp; cases hp
  · intro _; exact List.nodup_nil
  · intro p hp; cases hp

end Go.AI

/- From a run to the contract of a call whose arguments name memory that it leaves alone. -/
namespace Go.AI
open Go.ChangeShapes Go.WideShapes Go.ChangeAt Go.RowKit
variable {P : Program} {pt : PT}

theorem calls_of_start (hpt : pt.Ok P) {sm : Sums} (hsm : ∀ f s, sm f = some s → SumOk P f s) {k : Nat} {f : FuncId} {args : List V} {cargs : List Value} {v : V} {σ σ' : St} {μ : Mu} {w : World}
    (hb : hasBody pt f = true) (hs : SR (.of w) μ σ w) (he : callN pt sm k { fn := .func f, args := args } σ = some (.ret v, σ')) (hr : RL μ args cargs) :
    Calls P f cargs.toArray w fun e w' => ∃ μ' cv, e = .returned cv ∧ R μ' v cv ∧ Below w.heap.size w w' := by
  have := callN_ok hpt hsm k _ _ _ _ he (.of w) μ w hs cargs hr
  rcases this with ⟨_, h⟩ | ⟨h, _⟩
  · refine (CallsIn.calls h (fr_room none)).mono ?_
    rintro e w' ⟨μ', cv, rfl, h1, _, h3⟩
    exact ⟨μ', cv, rfl, h3, h1.below.plain⟩
  · exact absurd h (hasBody_ok hpt hb)

/-- Numbers from one on; block 0: memory of which nothing is known. -/
def st1 : St := { heap := .nil, next := 1 }

theorem sr1 (w : World) : SR (.of w) mu0 st1 w where
  below := W0.of_below w
  lt := fun _ _ h => by cases h
  out := fun _ _ => rfl
  obj := fun _ _ _ h => by cases h
  inj := fun _ _ _ _ _ _ h => by cases h

def mu1 (p : Loc) : Mu := fun b => if b = 0 then some p else none

theorem sr1p (w : World) (p : Loc) (hp : p.blk < w.heap.size) : SR (.of w) (mu1 p) st1 w where
  below := W0.of_below w
  lt := fun b q h => by
    unfold mu1 at h
    split at h
    · rename_i e; subst e; cases h; exact ⟨Nat.zero_lt_one, hp⟩
    · cases h
  out := fun _ _ => rfl
  obj := fun _ _ _ _ h => by cases h
  inj := fun _ _ _ _ _ _ _ _ h => by cases h

/-- The arguments name memory; nothing that was there has turned. -/
theorem post_of_kept {H : Type} {enc : TypeId × Value → H} {f : Func} {s : ChangeSpec} {apart fresh handsOn again : Bool} {W W' : World} {args : Array Value} {v : Value} {ds gs : List (DataW H)} {before pa pv : List MemPlace}
    (hW : DataW.Whole enc P f.params.toList s.vars apart W args.toList ds gs before)
    (hres : ∀ (b : Nat) (sp : Nat → Bool) (hd : Bool), DataW.TrodAll enc P W' b sp hd f.resultTypes.toList (v.resultList f.resultTypes.size) (s.fn H (ds ++ gs)).results [])
    (hargs : ∀ sp : Nat → Bool, (∀ p ∈ before, sp p.block = true) → DataW.TrodAll enc P W' 0 sp true f.params.toList args.toList (s.fn H (ds ++ gs)).args pa)
    (hvars : ∀ sp : Nat → Bool, (∀ p ∈ before, sp p.block = true) → DataW.TrodVars enc P W' sp s.vars (s.fn H (ds ++ gs)).vars pv)
    (hps : before = pa ++ pv) (hb : Below W.heap.size W W')
    (hok : ∀ (j : Nat) (t : TypeId) (r : Value), f.resultTypes[j]? = some t → (v.resultList f.resultTypes.size)[j]? = some r → Value.okWide P W' .any 0 t r) :
    s.post enc P f apart fresh handsOn again W args v W' := by
  have hlt : ∀ p ∈ before, p.block < W.heap.size := fun p hp => hW.lt p hp
  have hold : ∀ p ∈ before, (fun b => decide (b < W.heap.size)) p.block = true := fun p hp => by simpa using hW.lt p hp
  refine ⟨ds, gs, before, [], pa, pv, hW, hres _ _ _, hargs _ hold, hvars _ hold, keptBut_of_below hb _, fun _ => ?_⟩
  obtain ⟨_, _, _, _, _, hz, hn⟩ := hW
  refine ⟨hok, _, _, ([] ++ pa) ++ pv, ⟨[] ++ pa, pv, trodAll_append (hargs _ (fun _ _ => rfl)) (hres _ _ _), hvars _ (fun _ _ => rfl), rfl, ?_, ?_⟩, ?_⟩
  · intro b off hp
    have hm : MemPlace.cell b off ∈ before := by rw [hps]; simpa using hp
    rw [hb.frozen (p := ⟨b, off, none⟩) (hlt _ hm)]
    exact hz b off hm
  · intro ha
    have := hn ha
    rw [hps] at this
    simpa using this
  · intro p hp _
    rw [hps]
    simpa using hp

end Go.AI

/- The program's tables. -/
namespace Go.AI
noncomputable section

def eqsOf : List TypeId → T Unit
  | [] => .nil
  | t :: ts => (eqsOf ts).set t ()

theorem eqsOf_mem : ∀ {ts : List TypeId} {t : TypeId}, (eqsOf ts).get t = some () → t ∈ ts
  | [], _, h => by simp [eqsOf] at h
  | x :: ts, t, h => by
    simp only [eqsOf] at h
    rw [T.get_set] at h
    split at h
    · rename_i e; rw [e]; exact List.mem_cons_self ..
    · exact List.mem_cons_of_mem _ (eqsOf_mem h)

def plainNames (P : Program) : Bool := P.funcs.toList.all fun fn => !(fn.name == "runtime.NumGoroutine")

theorem ptOf_ok {P : Program} {ts : List TypeId} (h1 : plainNames P = true) (h2 : P.follows .mixedOrders = true) (h3 : ts.all (fun t => !P.stoodInHeld t) = true) : (ptOf P (eqsOf ts)).Ok P where
  types := fun t i h => by
    have h : (T.ofList P.types.toList).get t = some i := h
    rw [T.get_ofList] at h
    have h1 : P.types[t]? = some i := by simpa using h
    unfold Tables.info?
    have hlt : t < P.types.size := by
      rcases Nat.lt_or_ge t P.types.size with h' | h'
      · exact h'
      · rw [Array.getElem?_eq_none h'] at h1; cases h1
    rw [if_pos hlt]
    exact h1
  funcs := fun f fn h => by
    have h : (T.ofList P.funcs.toList).get f = some fn := h
    rw [T.get_ofList] at h
    refine ⟨by simpa using h, ?_⟩
    have := List.all_eq_true.1 h1 fn (List.mem_of_getElem? h)
    simpa using this
  eqs := fun t h => by
    have := List.all_eq_true.1 h3 t (eqsOf_mem h)
    simpa using this
  orders := h2

end
end Go.AI
