/- Summaries: functions that the model answers by itself. -/
import Derived.Test.YtcfhmlpahjhigaaGreatDoorZE
import Derived.Laws.StandIn
import Derived.Test.YtcfhmlpahjhigaaGreatDoorZA
import Derived.Lib.Overlaps
import Derived.Shelf.SlIter.Nil
import Derived.Shelf.SlIterI.Nil
import Derived.Lib.Join
namespace Go.AI
variable {P : Program} {pt : PT}
noncomputable section

def idx8 (c : UInt8) : List UInt8 → Nat → Int
  | [], _ => -1
  | x :: xs, i => match Nat.beq x.toNat c.toNat with
    | true => Int.ofNat i
    | false => idx8 c xs (i + 1)

theorem get_at (s : ByteArray) (i : Nat) (x : UInt8) (h : s.data.toList[i]? = some x) : s[i]! = x := by
  have h' : s.data[i]? = some x := by simpa using h
  have hlt : i < s.data.size := by
    rcases Nat.lt_or_ge i s.data.size with h1 | h1
    · exact h1
    · rw [Array.getElem?_eq_none h1] at h'; cases h'
  have hlt' : i < s.size := hlt
  rw [getElem!_pos s i hlt']
  rw [Array.getElem?_eq_getElem hlt] at h'
  exact Option.some.inj h'

theorem firstIdx_eq (s : ByteArray) (c : UInt8) : ∀ (suf pre : List UInt8), s.data.toList = pre ++ suf →
    (match (List.range' pre.length suf.length).find? fun i => s[i]! == c with | some i => Int.ofNat i | none => (-1 : Int)) = idx8 c suf pre.length
  | [], pre, _ => by simp [idx8]
  | x :: xs, pre, h => by
    have hx : s[pre.length]! = x := get_at s _ x (by rw [h]; simp)
    have ih := firstIdx_eq s c xs (pre ++ [x]) (by rw [h]; simp)
    simp only [List.length_cons, List.range'_succ, List.find?_cons, hx, idx8]
    cases hb : Nat.beq x.toNat c.toNat with
    | true =>
      rw [Nat.beq_eq] at hb
      have : x = c := UInt8.toNat_inj.1 hb
      subst this
      simp
    | false =>
      have hne : (x == c) = false := by
        cases hc : x == c with
        | false => rfl
        | true =>
          rw [beq_iff_eq] at hc
          subst hc
          simp at hb
      rw [hne]
      simpa using ih

def indexByteSum : List V → St → Option (AEnd × St)
  | [.str s, .int .u8 c], σ => some (.ret (.int .i64 (idx8 c.toNat.toUInt8 s 0)), σ)
  | _, _ => none

theorem indexByteSum_ok {f : FuncId} {fn : Func} (hf : P.funcs[f]? = some fn) (hname : (fn.name == "runtime.NumGoroutine") = false) (hb : fn.body = none) (hn : Extern.findNext fn = none)
    (he : Extern.find fn = some Extern.BytealgIndexByte.indexByte) : SumOk P f indexByteSum := by
  intro args σ v σ' hs w0 μ w h cargs hr
  unfold indexByteSum at hs
  split at hs
  · rename_i s c
    cases hs
    obtain ⟨c0, _, ⟨ba, rfl, rfl⟩, ⟨c1, _, h1, h2, rfl⟩, rfl⟩ := hr
    simp only [RL] at h2; subst h2
    simp only [R] at h1; subst h1
    refine .inr ⟨⟨fn, hf, hb⟩, _, w, μ, ?_, h, Ext.refl _ _, rfl⟩
    rw [run_callFunc_indexByte hf hname (by rw [hb]; rfl) hn he, run_indexByte_string]
    have := firstIdx_eq ba c.toNat.toUInt8 ba.data.toList [] rfl
    simp only [List.length_nil] at this
    rw [← this]
    simp only [Result.andThen_ok, firstIdx]
    rw [List.range_eq_range']
    congr 2
  · cases hs

end
end Go.AI

/- Functions of Go's library, as the abstract interpreter answers them. -/
namespace Go.AI
noncomputable section

/-! ### Functions of Go's library -/

/-- A slice's cells. -/
def rowOf (σ : St) (sz : Nat) : V → Option (List V)
  | .nilslice => some []
  | .slice b o n c z => match Nat.beq z sz with
    | true => readSlice σ sz n (.slice b o n c z)
    | false => none
  | _ => none

def newRowA (sz len : Nat) (row : List V) (σ : St) : Option (AEnd × St) :=
  some (.ret (.slice σ.next 0 len (.least len) sz), σ.alloc (.cells false row))

/-- slices.overlaps, of rows of two blocks. -/
def overlapsSum : List V → St → Option (AEnd × St)
  | [.slice b1 _ (_ + 1) _ _, .slice b2 _ (_ + 1) _ _], σ => match Nat.beq b1 b2, σ.get b1, σ.get b2 with
    | false, some (.cells false _), some (.cells false (_ :: _)) => some (.ret (.bool false), σ)
    | _, _, _ => none
  | _, _ => none

/-- Strings in their order. -/
def insStr (x : List UInt8) : List (List UInt8) → List (List UInt8)
  | [] => [x]
  | y :: ys => match ltBytes y x with
    | true => y :: insStr x ys
    | false => x :: y :: ys

def sortKeys : List AEntry → Option (List (List UInt8))
  | [] => some []
  | e :: es => match e.key, sortKeys es with
    | .str s, some l => match Nat.ble s.length 100000 with
      | true => some (insStr s l)
      | false => none
    | _, _ => none

/-- Each text lies ahead of the next. -/
def rising : List (List UInt8) → Bool
  | [] => true
  | x :: l => match l with
    | [] => true
    | y :: _ => ltBytes x y && rising l

def noBorn (n : Nat) : List AEntry → Bool
  | [] => true
  | e :: es => match Nat.beq e.born n with
    | true => false
    | false => noBorn n es
/-- The entries' stamps are of one map. -/
def stampsOk (clock : Nat) : List AEntry → Bool
  | [] => true
  | e :: es => Nat.blt e.born clock && (noBorn e.born es && stampsOk clock es)

/-- maps.Keys, whose inner function is fk. -/
def keysSum (fk : FuncId) : List V → St → Option (AEnd × St)
  | [.map b], σ => some (.ret (.func (.func fk) [] [.ptr σ.next 0]), σ.alloc (.boxed (.map b)))
  | _, _ => none

/-- slices.Sorted of maps.Keys (whose inner function is fk), of texts. -/
def sortedSum (fk : FuncId) : List V → St → Option (AEnd × St)
  | [.func (.func g) [] [.ptr bx 0]], σ => match Nat.beq g fk, σ.get bx with
    | true, some (.boxed (.map b)) => match σ.get b with
      | some (.map es clock) => match sortKeys es, stampsOk clock es && Nat.ble es.length 1000 with
        | some ks, true => match rising ks with
          | true => match ks with
            | [] => some (.ret .nilslice, σ)
            | k :: l => newRowA 1 (l.length + 1) ((k :: l).map .str) σ
          | false => none
        | _, _ => none
      | _ => none
    | _, _ => none
  | _, _ => none

/-! ### The same of numbers -/

def insInt (x : Int) : List Int → List Int
  | [] => [x]
  | y :: ys => match zle x y with
    | true => x :: y :: ys
    | false => y :: insInt x ys

def sortKeysI : List AEntry → Option (List Int)
  | [] => some []
  | e :: es => match e.key, sortKeysI es with
    | .int .i64 (.ofNat n), some l => match Nat.ble n 1000000000 with
      | true => some (insInt (.ofNat n) l)
      | false => none
    | _, _ => none

def risingI : List Int → Bool
  | [] => true
  | x :: l => match l with
    | [] => true
    | y :: _ => !zle y x && risingI l

/-- slices.Sorted of maps.Keys (whose inner function is fk), of numbers. -/
def sortedIntSum (fk : FuncId) : List V → St → Option (AEnd × St)
  | [.func (.func g) [] [.ptr bx 0]], σ => match Nat.beq g fk, σ.get bx with
    | true, some (.boxed (.map b)) => match σ.get b with
      | some (.map es clock) => match sortKeysI es, stampsOk clock es && Nat.ble es.length 1000 with
        | some ks, true => match risingI ks with
          | true => match ks with
            | [] => some (.ret .nilslice, σ)
            | k :: l => newRowA 1 (l.length + 1) ((k :: l).map (.int .i64)) σ
          | false => none
        | _, _ => none
      | _ => none
    | _, _ => none
  | _, _ => none

/-! ### Texts -/

def hexDigit (n : Nat) : UInt8 := match Nat.blt n 10 with
  | true => UInt8.ofNat (48 + n)
  | false => UInt8.ofNat (87 + n)
def hexOf : List UInt8 → List UInt8
  | [] => []
  | c :: l => hexDigit (c.toNat / 16) :: hexDigit (c.toNat % 16) :: hexOf l

def u8sOf : List V → Option (List UInt8)
  | [] => some []
  | .int .u8 (.ofNat n) :: l => match Nat.blt n 256, u8sOf l with
    | true, some r => some (UInt8.ofNat n :: r)
    | _, _ => none
  | _ => none

/-- base.Hex. -/
def hexSum : List V → St → Option (AEnd × St)
  | [.slice b o (n + 1) c z], σ => match Nat.beq z 1, readSlice σ 1 (n + 1) (.slice b o (n + 1) c z) with
    | true, some cs => match u8sOf cs, Nat.ble (n + 1) 1000 with
      | some l, true => some (.ret (.str (hexOf l)), σ)
      | _, _ => none
    | _, _ => none
  | _, _ => none

def strsOf : List V → Option (List (List UInt8))
  | [] => some []
  | .str s :: l => match strsOf l with
    | some r => some (s :: r)
    | none => none
  | _ => none
def joinOf (sep : List UInt8) : List (List UInt8) → List UInt8
  | [] => []
  | x :: l => match l with
    | [] => x
    | _ :: _ => x ++ (sep ++ joinOf sep l)

/-- strings.Join of two texts or more. -/
def joinSum : List V → St → Option (AEnd × St)
  | [.slice b o (n + 2) c z, .str sep], σ => match Nat.beq z 1, readSlice σ 1 (n + 2) (.slice b o (n + 2) c z) with
    | true, some cs => match strsOf cs with
      | some l => match Nat.ble (joinOf sep l).length 100000 && Nat.ble (n + 2) 1000 with
        | true => some (.ret (.str (joinOf sep l)), σ)
        | false => none
      | none => none
    | _, _ => none
  | _, _ => none

end
end Go.AI

/- Tables of calls that were run once; data for them; the summaries of library functions, as functions. -/
namespace Go.AI
variable {P : Program} {pt : PT}
noncomputable section

/-! ### Data -/

def bsF : Nat → Nat → List UInt8 → List UInt8
  | 0, _, acc => acc
  | n + 1, x, acc => nf (x % 256) fun c => nf (x / 256) fun y => bsF n y (UInt8.ofNat c :: acc)
/-- n bytes, of a number's digits of the base 256. -/
def bs (n x : Nat) : List UInt8 := bsF n x []

def rowF : Nat → Nat → List V → List V
  | 0, _, acc => acc
  | n + 1, x, acc => nf (x % 256) fun c => nf (x / 256) fun y => rowF n y (.int .u8 (.ofNat c) :: acc)
/-- The same as cells. -/
def row (n x : Nat) : AObj := .cells false (rowF n x [])

/-! ### Tables -/

def trySegs : List (Nat × Seg) → FuncId → List V → St → Option (AEnd × St)
  | [], _, _, _ => none
  | (g, s) :: l, f, args, σ => match Nat.beq f g with
    | true => match s.says args σ with
      | some r => some r
      | none => trySegs l f args σ
    | false => trySegs l f args σ

theorem trySegs_ok : ∀ {l : List (Nat × Seg)}, (∀ x ∈ l, SumOk P x.1 x.2.says) → ∀ f, SumOk P f (trySegs l f)
  | [], _, f => by intro args σ v σ' h; cases h
  | (g, s) :: l, hl, f => by
    have ih := trySegs_ok (fun x hx => hl x (List.mem_cons_of_mem _ hx)) f
    intro args σ v σ' h
    simp only [trySegs] at h
    split at h
    · rename_i hb
      have := Nat.eq_of_beq_eq_true hb
      subst this
      split at h
      · rename_i r hs
        cases h
        exact hl _ (List.mem_cons_self ..) args σ v σ' hs
      · exact ih args σ v σ' h
    · exact ih args σ v σ' h

def retIs (v : V) (r : Option (AEnd × St)) : Bool :=
  match r with
  | some (.ret x, _) => sameV x v
  | none => false
theorem retIs_ex {v : V} {r : Option (AEnd × St)} (h : retIs v r = true) : ∃ σ, r = some (.ret v, σ) := by
  unfold retIs at h
  split at h
  · rw [sameV_eq _ _ h]; exact ⟨_, rfl⟩
  · cases h

end
end Go.AI

/- slices.Insert at a slice whose capacity is known from below alone: run twice, without room and with room. -/
namespace Go.AI
variable {P : Program} {pt : PT}
noncomputable section

/-! ### slices.overlaps -/

theorem overlapsSum_ok (hpt : pt.Ok P) {f : FuncId} {fn : Func} {tS tR e : TypeId} {n : Nat} (hf : P.funcs[f]? = some fn) (hname : (fn.name == "runtime.NumGoroutine") = false) (hb : fn.body = none) (hn : Extern.findNext fn = none)
    (he : Extern.find fn = some (Extern.SlicesOverlaps.overlaps #[tS, tS] #[tR])) (ht : P.underlying tS = some (.slice e)) (hz : pt.size e = some n) : SumOk P f overlapsSum := by
  intro args σ v σ' hs w0 μ w h cargs hr
  unfold overlapsSum at hs
  split at hs
  · rename_i b1 o1 n1 c1 z1 b2 o2 n2 c2 z2
    split at hs
    · rename_i cs1 x2 cs2 hne hg1 hg2
      cases hs
      obtain ⟨v1, _, ⟨ca1, cc1, rfl, hl1, _, ha1, _⟩, ⟨v2, _, ⟨ca2, cc2, rfl, hl2, _, ha2, _⟩, h3, rfl⟩, rfl⟩ := hr
      simp only [RL] at h3; subst h3
      obtain ⟨p1, hp1, rfl, hf1⟩ := ha1 (by omega)
      obtain ⟨p2, hp2, rfl, hf2⟩ := ha2 (by omega)
      have hbne : b1 ≠ b2 := fun e => by subst e; simp at hne
      have hblk : p1.blk ≠ p2.blk := h.inj b1 b2 p1 p2 _ _ hp1 hp2 hg1 hg2 rfl hbne
      obtain ⟨O1, hO1, k1, e1, fr1, rfl, hs1, _, hfr1⟩ := h.obj b1 p1 _ hp1 hg1
      obtain ⟨O2, hO2, k2, e2, fr2, rfl, hs2, hc2, _⟩ := h.obj b2 p2 _ hp2 hg2
      obtain ⟨cv, hcv, _⟩ := hc2 0 x2 rfl
      have hk2 : k2.size ≠ 0 := fun e0 => by
        rw [Array.getElem?_eq_none (by omega)] at hcv
        cases hcv
      have hfz : ∀ off, w.frozen? ⟨p1.blk, off, none⟩ = false := fun off => by
        have := (hfr1 rfl).2
        obtain ⟨lo, hi⟩ := fr1
        simp only at this
        subst this
        simp only [World.frozen?, hO1, Bool.and_eq_false_iff, decide_eq_false_iff_not]
        omega
      refine .inr ⟨⟨fn, hf, hb⟩, .bool false, w, μ, ?_, h, Ext.refl _ _, rfl⟩
      rw [run_callFunc_extern hf hname (by rw [hb]; rfl) hn he,
        Lib.run_overlaps_apart w tS tR e ht n (run_size hpt hz) _ _ _ _ _ _ hblk e1 e2 k1.size k2.size (by simp [World.shape?, hO1]) (by simp [World.shape?, hO2]) hk2 (hfz _) (hfz _)]
      rfl
    · cases hs
  · cases hs

mutual
theorem sameV_self : ∀ x : V, sameV x x = true
  | .bool b => by cases b <;> rfl
  | .int k n => by simp [sameV, zeq_eq]
  | .flo k n => by simp [sameV]
  | .cpl k a b => by simp [sameV]
  | .str s => by simp only [sameV]; rw [eqBytes_iff, beq_iff_eq]
  | .nilptr => rfl
  | .ptr b o => by simp [sameV]
  | .nilslice => rfl
  | .slice b o l c z => by cases c <;> simp [sameV]
  | .nilmap => rfl
  | .map b => by simp [sameV]
  | .func f a c => by simp [sameV, sameVs_self a, sameVs_self c]
  | .nilfunc => rfl
  | .iface t v => by simp [sameV, sameV_self v]
  | .niliface => rfl
  | .agg cs => by simp only [sameV]; exact sameVs_self cs
  | .tuple cs => by simp only [sameV]; exact sameVs_self cs
theorem sameVs_self : ∀ xs : List V, sameVs xs xs = true
  | [] => rfl
  | x :: xs => by simp only [sameVs, sameV_self x, sameVs_self xs]; rfl
end

/-! ### A block is named anew -/

theorem SR.raise {w0 : W0} {μ : Mu} {σ : St} {w : World} (h : SR w0 μ σ w) {L : Nat} (hL : σ.next ≤ L) : SR w0 μ { σ with next := L } w where
  below := h.below
  lt := fun b p hp => ⟨Nat.lt_of_lt_of_le (h.lt b p hp).1 hL, (h.lt b p hp).2⟩
  out := fun b hb => h.out b (Nat.le_trans hL hb)
  obj := h.obj
  inj := h.inj

theorem SR.move {w0 : W0} {μ : Mu} {σ : St} {w : World} (h : SR w0 μ σ w) {β o L : Nat} {p : Loc} {row1 row : List V} (hp : μ β = some p) (hg : σ.get β = some (.cells false row1))
    (hrow : row = (row1.drop o).take row.length) (hL : σ.next ≤ L) :
    SR w0 (μ.add L ⟨p.blk, p.off + o, p.size⟩) { heap := (σ.heap.put β none).set L (.cells false row), next := L + 1 } w ∧ μ.le (μ.add L ⟨p.blk, p.off + o, p.size⟩) := by
  obtain ⟨O, hO, c, e, fr, rfl, hs, hc, hw⟩ := h.obj β p _ hp hg
  have hk := (h.kill β).raise (L := L) hL
  have hn : μ L = none := by
    cases hm : μ L with
    | none => rfl
    | some q => exact absurd (h.lt L q hm).1 (Nat.not_lt.2 hL)
  have hle := μ.le_add (⟨p.blk, p.off + o, p.size⟩ : Loc) hn
  refine ⟨?_, hle⟩
  have := hk.over (a := .cells false row) (q := ⟨p.blk, p.off + o, p.size⟩) hO (fun b r d hb hd e => by
    have hd : (σ.put β none).get b = some d := hd
    rw [St.get_put] at hd
    split at hd
    · cases hd
    · rename_i hne
      exact h.inj β b p r _ d hp hb hg hd rfl (fun e => hne e.symm) e.symm)
    ⟨c, e, fr, rfl, hs, (fun i v hv => by
      rw [hrow, List.getElem?_take] at hv
      split at hv
      · rw [List.getElem?_drop] at hv
        obtain ⟨cv, h1, h2⟩ := hc _ v hv
        exact ⟨cv, by rw [← h1]; congr 1; simp only []; omega, R_mono hle _ h2⟩
      · cases hv), hw⟩
  exact this.1

/-- The run's result, as a term, and whether all else holds. -/
def Seg.ends (pt : PT) (sm : Sums) (k : Nat) (f : FuncId) (s : Seg) : V × Bool :=
  match callF pt sm k { fn := .func f, args := s.args } s.start with
  | some (.ret v, σ) => (v, Nat.beq σ.next s.last && (keptIns σ s.outs s.ins && (madeOuts σ s.next s.ins s.outs && (keysBelow s.next s.ins && keysBelow s.last s.outs))))
  | none => (.undef, false)
theorem runs_of_ends {pt : PT} {sm : Sums} {k : Nat} {f : FuncId} {s : Seg} (h : s.ends pt sm k f = (s.res, true)) : s.runs pt sm k f = true := by
  unfold Seg.ends at h
  unfold Seg.runs
  split at h
  · rename_i v σ he
    injection h with h1 h2
    rw [he, h1]
    simp only [sameV_self, h2, Bool.true_and]
  · injection h with h1 h2
    cases h2

/-! ### Insert -/

structure ISeg where
  b : Nat
  o : Nat
  n : Nat
  z : Nat
  x2 : V
  x3 : V
  next : Nat
  ins : List (Nat × AObj)
  blkA : Nat
  lastA : Nat
  lastB : Nat
  rowB : List V
  row : List V

/-- The run without room. -/
def ISeg.a (s : ISeg) : Seg := { args := [.slice s.b s.o s.n (.exact s.n) s.z, s.x2, s.x3], next := s.next, ins := s.ins, res := .slice s.blkA 0 (s.n + 1) (.least (s.n + 1)) s.z, last := s.lastA, outs := [(s.blkA, some (.cells false s.row))] }
/-- The run with room, however much. -/
def ISeg.r (s : ISeg) (d : Nat) : Seg := { args := [.slice s.b s.o s.n (.exact (d + (s.n + 1))) s.z, s.x2, s.x3], next := s.next, ins := s.ins, res := .slice s.b s.o (s.n + 1) (.exact (d + (s.n + 1))) s.z, last := s.lastB, outs := [(s.b, some (.cells false s.rowB))] }

def ISeg.to (s : ISeg) : Nat :=
  match Nat.ble s.lastA s.lastB with
  | true => s.lastB
  | false => s.lastA
theorem ISeg.to_le (s : ISeg) : s.lastA ≤ s.to ∧ s.lastB ≤ s.to := by
  unfold ISeg.to
  split
  · rename_i h
    exact ⟨Nat.le_of_ble_eq_true h, Nat.le_refl _⟩
  · rename_i h
    refine ⟨Nat.le_refl _, ?_⟩
    rcases Nat.lt_or_ge s.lastA s.lastB with h1 | h1
    · rw [Nat.ble_eq_true_of_le (Nat.le_of_lt h1)] at h; cases h
    · exact h1

def ISeg.says (s : ISeg) (args : List V) (σ : St) : Option (AEnd × St) :=
  match args with
  | [.slice b o n (.least _) z, y2, y3] => match Nat.beq σ.next s.next && (Nat.beq b s.b && (Nat.beq o s.o && (Nat.beq n s.n && (Nat.beq z s.z && (sameV y2 s.x2 && (sameV y3 s.x3 && holdsIns σ s.ins)))))) with
    | true => some (.ret (.slice s.to 0 (s.n + 1) (.least (s.n + 1)) s.z), { heap := (σ.heap.put s.b none).set s.to (.cells false s.row), next := s.to + 1 })
    | false => none
  | _ => none

def sameRows : List V → Option (List V) → Bool
  | x, some y => sameVs x y
  | _, none => false

/-- What is closed of it. -/
def ISeg.fine (s : ISeg) : Bool :=
  hasKey s.b s.ins && (Nat.ble s.next s.blkA && (Nat.blt s.blkA s.lastA && (Nat.ble s.next s.lastB && sameRows s.row (takeN s.row.length (s.rowB.drop s.o)))))

theorem iseg_ok {f : FuncId} {s : ISeg} (hfine : s.fine = true) (hA : SumOk P f s.a.says) (hB : ∀ d, SumOk P f (s.r d).says) : SumOk P f s.says := by
  intro args σ v σ' hs w0 μ w h cargs hr
  unfold ISeg.says at hs
  split at hs
  · rename_i b o n m z y2 y3
    split at hs
    · rename_i hc
      simp only [Bool.and_eq_true, Nat.beq_eq] at hc
      obtain ⟨hnext, rfl, rfl, rfl, rfl, hy2, hy3, hins⟩ := hc
      have hy2 := sameV_eq _ _ hy2
      have hy3 := sameV_eq _ _ hy3
      subst hy2; subst hy3
      simp only [ISeg.fine, Bool.and_eq_true, Nat.ble_eq] at hfine
      obtain ⟨f1, f2, f3, f4, f5⟩ := hfine
      have f3 := Nat.blt_eq.mp f3
      cases hs
      obtain ⟨c1, crest, hr1, hrest, rfl⟩ := hr
      obtain ⟨ca, cc, rfl, hle, hcap, haddr, q0, hq0⟩ := hr1
      have hsmall : σ.next ≤ s.lastA ∧ σ.next ≤ s.lastB := by rw [hnext]; omega
      have hbk : s.b < σ.next := (h.lt _ _ hq0).1
      -- what is left to show of either end
      have fin : ∀ (σ1 : St) (β : Nat) (o1 : Nat) (row1 : List V) (w' : World) (μ1 : Mu) (cv : Value) (cap1 : Cap), SR w0 μ1 σ1 w' → Ext μ σ μ1 σ1 → σ1.get β = some (.cells false row1) →
          R μ1 (.slice β o1 (s.n + 1) cap1 s.z) cv → s.row = (row1.drop o1).take s.row.length → σ1.next ≤ s.to →
          (∀ c, c ≠ s.b → c ≠ β → σ1.get c = σ.get c) → (β = s.b ∨ σ.next ≤ β) → ∃ μ' , SR w0 μ' { heap := (σ.heap.put s.b none).set s.to (.cells false s.row), next := s.to + 1 } w' ∧
            Ext μ σ μ' { heap := (σ.heap.put s.b none).set s.to (.cells false s.row), next := s.to + 1 } ∧ R μ' (.slice s.to 0 (s.n + 1) (.least (s.n + 1)) s.z) cv := by
        intro σ1 β o1 row1 w' μ1 cv cap1 k1 k2 hg hR hrow hL hsame hβ
        obtain ⟨ca', cc', rfl, hle', hcap', haddr', p, hp⟩ := hR
        obtain ⟨m1, m2⟩ := k1.move hp hg hrow hL
        have hLn : σ.next ≤ s.to := Nat.le_trans k2.next hL
        refine ⟨_, (m1.kill s.b).congr rfl (fun c => ?_), ⟨Mu.le_trans k2.le m2, ?_, fun c hc hm => ?_⟩, ca', cc', rfl, hle', hle', fun hne => ?_, _, Mu.add_same _ _ _⟩
        · show ((σ.heap.put s.b none).set s.to (.cells false s.row)).get c = (((σ1.heap.put β none).set s.to (.cells false s.row)).put s.b none).get c
          have hb2 : s.b ≠ s.to := by omega
          simp only [T.get_set, T.get_put]
          by_cases e1 : c = s.to
          · subst e1; simp [Ne.symm hb2]
          · by_cases e2 : c = s.b
            · simp [e2, hb2]
            · by_cases e3 : c = β
              · rw [if_neg e1, if_neg e2, if_neg e2, if_neg e1, if_pos e3]
                rcases hβ with rfl | hβ
                · exact absurd e3 e2
                · exact h.out c (by omega)
              · rw [if_neg e1, if_neg e2, if_neg e2, if_neg e1, if_neg e3]
                exact (hsame c e2 e3).symm
        · show σ.next ≤ s.to + 1
          omega
        · have h1 := (k2.unm c hc hm).1
          refine ⟨?_, ?_⟩
          · unfold Mu.add; rw [if_neg (by omega)]; exact h1
          · show ((σ.heap.put s.b none).set s.to (.cells false s.row)).get c = σ.heap.get c
            have : c ≠ s.b := fun e => by subst e; rw [hq0] at hm; cases hm
            rw [T.get_set, if_neg (by omega), T.get_put, if_neg this]
        · obtain ⟨p', hp', e1, e2⟩ := haddr' hne
          rw [hp] at hp'; cases hp'
          exact ⟨_, Mu.add_same _ _ _, by rw [e1]; simp, by simp only []; omega⟩
      have done : ∀ (S : Seg), SumOk P f S.says → ∀ σ1, S.says S.args σ = some (.ret S.res, σ1) → RL μ S.args (.slice (some ca) s.n cc :: crest) →
          (∀ (w' : World) (μ1 : Mu) (cv : Value), SR w0 μ1 σ1 w' → Ext μ σ μ1 σ1 → R μ1 S.res cv → ∃ μ', SR w0 μ' { heap := (σ.heap.put s.b none).set s.to (.cells false s.row), next := s.to + 1 } w' ∧
            Ext μ σ μ' { heap := (σ.heap.put s.b none).set s.to (.cells false s.row), next := s.to + 1 } ∧ R μ' (.slice s.to 0 (s.n + 1) (.least (s.n + 1)) s.z) cv) →
          ((callFunc f (Value.slice (some ca) s.n cc :: crest).toArray).run P w = .ok (.enter f (Value.slice (some ca) s.n cc :: crest).toArray) w ∧ CallsIn (FR none) 0 P f (Value.slice (some ca) s.n cc :: crest).toArray w
              (Ends w0 μ σ (.slice s.to 0 (s.n + 1) (.least (s.n + 1)) s.z) { heap := (σ.heap.put s.b none).set s.to (.cells false s.row), next := s.to + 1 })) ∨
            ((∃ fn, P.funcs[f]? = some fn ∧ fn.body = none) ∧ ∃ cv w' μ', (callFunc f (Value.slice (some ca) s.n cc :: crest).toArray).run P w = .ok (.value cv) w' ∧
              SR w0 μ' { heap := (σ.heap.put s.b none).set s.to (.cells false s.row), next := s.to + 1 } w' ∧ Ext μ σ μ' { heap := (σ.heap.put s.b none).set s.to (.cells false s.row), next := s.to + 1 } ∧
              R μ' (.slice s.to 0 (s.n + 1) (.least (s.n + 1)) s.z) cv) := by
        intro S hS σ1 hsay hargs hfin
        rcases hS _ _ _ _ hsay w0 μ w h _ hargs with ⟨c1, c2⟩ | ⟨c1, cv, w', μ1, c2, c3, c4, c5⟩
        · refine .inl ⟨c1, c2.mono ?_⟩
          rintro e w' ⟨μ1, cv, rfl, k1, k2, k3⟩
          obtain ⟨μ', z1, z2, z3⟩ := hfin w' μ1 cv k1 k2 k3
          exact ⟨μ', cv, rfl, z1, z2, z3⟩
        · obtain ⟨μ', z1, z2, z3⟩ := hfin w' μ1 cv c3 c4 c5
          exact .inr ⟨c1, cv, w', μ', c2, z1, z2, z3⟩
      have saysEq : ∀ S : Seg, S.next = s.next → S.ins = s.ins → sameVs S.args S.args = true → S.says S.args σ = some (.ret S.res, { heap := layOuts S.outs σ.heap, next := S.last }) := by
        intro S e1 e2 e3
        unfold Seg.says
        rw [e1, e2, hins, e3, hnext]
        simp
      rcases Nat.lt_or_ge s.n cc with hroom | hno
      · -- there is room
        have hd : cc = (cc - (s.n + 1)) + (s.n + 1) := by omega
        refine done (s.r (cc - (s.n + 1))) (hB _) _ (saysEq _ rfl rfl (sameVs_self _)) ⟨_, _, ⟨ca, cc, rfl, hle, hd, haddr, q0, hq0⟩, hrest, rfl⟩ ?_
        intro w' μ1 cv k1 k2 k3
        have hrb : s.row = (s.rowB.drop s.o).take s.row.length := by
          unfold sameRows at f5
          split at f5
          · rename_i x y heq
            obtain ⟨t1, _⟩ := takeN_spec _ _ _ heq
            rw [← t1]; exact sameVs_eq _ _ f5
          · cases f5
        refine fin _ s.b s.o s.rowB w' μ1 cv _ k1 k2 ?_ k3 hrb ?_ (fun c h1 _ => ?_) (.inl rfl)
        · show (σ.heap.put s.b _).get s.b = _
          rw [T.get_put, if_pos rfl]
        · show s.lastB ≤ s.to
          exact (s.to_le).2
        · show (σ.heap.put s.b _).get c = _
          rw [T.get_put, if_neg h1]; rfl
      · have hd : cc = s.n := by omega
        refine done s.a hA _ (saysEq _ rfl rfl (sameVs_self _)) ⟨_, _, ⟨ca, cc, rfl, hle, hd, haddr, q0, hq0⟩, hrest, rfl⟩ ?_
        intro w' μ1 cv k1 k2 k3
        refine fin _ s.blkA 0 s.row w' μ1 cv _ k1 k2 ?_ k3 (by simp) ?_ (fun c _ h2 => ?_) (.inr (by rw [hnext]; exact f2))
        · show (σ.heap.put s.blkA _).get s.blkA = _
          rw [T.get_put, if_pos rfl]
        · show s.lastA ≤ s.to
          exact (s.to_le).1
        · show (σ.heap.put s.blkA _).get c = _
          rw [T.get_put, if_neg h2]; rfl
    · cases hs
  · cases hs

/-! ### Tables -/

def tryIns : List (Nat × ISeg) → FuncId → List V → St → Option (AEnd × St)
  | [], _, _, _ => none
  | (g, s) :: l, f, args, σ => match Nat.beq f g with
    | true => match s.says args σ with
      | some r => some r
      | none => tryIns l f args σ
    | false => tryIns l f args σ

theorem tryIns_ok : ∀ {l : List (Nat × ISeg)}, (∀ x ∈ l, SumOk P x.1 x.2.says) → ∀ f, SumOk P f (tryIns l f)
  | [], _, f => by intro args σ v σ' h; cases h
  | (g, s) :: l, hl, f => by
    have ih := tryIns_ok (fun x hx => hl x (List.mem_cons_of_mem _ hx)) f
    intro args σ v σ' h
    simp only [tryIns] at h
    split at h
    · rename_i hb
      have := Nat.eq_of_beq_eq_true hb
      subst this
      split at h
      · rename_i r hs
        cases h
        exact hl _ (List.mem_cons_self ..) args σ v σ' hs
      · exact ih args σ v σ' h
    · exact ih args σ v σ' h

def tryBoth (il : List (Nat × ISeg)) (l : List (Nat × Seg)) (f : FuncId) (args : List V) (σ : St) : Option (AEnd × St) :=
  match tryIns il f args σ with
  | some r => some r
  | none => trySegs l f args σ

def smWith (base : Sums) (il : List (Nat × ISeg)) (l : List (Nat × Seg)) : Sums := fun f =>
  match base f with
  | some s => some s
  | none => some (tryBoth il l f)

theorem smWith_ok {base : Sums} (hb : ∀ f s, base f = some s → SumOk P f s) {il : List (Nat × ISeg)} (hi : ∀ x ∈ il, SumOk P x.1 x.2.says) {l : List (Nat × Seg)} (hl : ∀ x ∈ l, SumOk P x.1 x.2.says) :
    ∀ f s, smWith base il l f = some s → SumOk P f s := by
  intro f s h
  unfold smWith at h
  split at h
  · rename_i s' hs
    cases h
    exact hb f _ hs
  · cases h
    intro args σ v σ' h
    unfold tryBoth at h
    split at h
    · rename_i r hr
      cases h
      exact tryIns_ok hi f args σ v σ' hr
    · exact trySegs_ok hl f args σ v σ' h

theorem tab_nil : ∀ x ∈ ([] : List (Nat × Seg)), SumOk P x.1 x.2.says := fun _ h => by cases h
theorem itab_nil : ∀ x ∈ ([] : List (Nat × ISeg)), SumOk P x.1 x.2.says := fun _ h => by cases h

/-- The tables grow call by call. -/
theorem tab_step (hpt : pt.Ok P) {base : Sums} (hb : ∀ f s, base f = some s → SumOk P f s) {il : List (Nat × ISeg)} (hi : ∀ x ∈ il, SumOk P x.1 x.2.says) {l : List (Nat × Seg)} (hl : ∀ x ∈ l, SumOk P x.1 x.2.says)
    {k : Nat} {f : Nat} {s : Seg} (hrun : s.runs pt (smWith base il l) k f = true) : ∀ x ∈ l ++ [(f, s)], SumOk P x.1 x.2.says := by
  intro x hx
  rcases List.mem_append.1 hx with h | h
  · exact hl x h
  · rw [List.mem_singleton] at h
    subst h
    exact seg_ok hpt (smWith_ok hb hi hl) hrun

theorem itab_step (hpt : pt.Ok P) {base : Sums} (hb : ∀ f s, base f = some s → SumOk P f s) {l : List (Nat × ISeg)} (hl : ∀ x ∈ l, SumOk P x.1 x.2.says)
    {k : Nat} {f : Nat} {s : ISeg} (hfine : s.fine = true) (hA : s.a.runs pt (smWith base [] []) k f = true) (hB : ∀ d, (s.r d).ends pt (smWith base [] []) k f = ((s.r d).res, true)) : ∀ x ∈ l ++ [(f, s)], SumOk P x.1 x.2.says := by
  intro x hx
  rcases List.mem_append.1 hx with h | h
  · exact hl x h
  · rw [List.mem_singleton] at h
    subst h
    have hsm := smWith_ok (P := P) hb itab_nil tab_nil
    exact iseg_ok hfine (seg_ok hpt hsm hA) (fun d => seg_ok hpt hsm (runs_of_ends (hB d)))

end
end Go.AI

/- maps.Keys, and slices.Sorted of it: the abstract interpreter's answers hold. -/
namespace Go.AI
open Go.RowKit Go.Maps Go.Proofs Go.MapKept
open Go.WideMaps (keyOf_string_mk)
open Go.WideElems (Fit rd rg)
variable {P : Program} {pt : PT}

theorem FR_none : FR none = Fence.wide := rfl

/-- A contract at the widest fence, as a summary asks for it. -/
theorem calls_fr {f : FuncId} {args : Array Value} {w : World} {n : Nat} {Q R : Ending → World → Prop} (h : CallsIn Fence.wide n P f args w Q) (hm : ∀ e w', Q e w' → R e w') : CallsIn (FR none) 0 P f args w R := by
  rw [FR_none]
  exact (callsIn_wide.2 (callsIn_wide.1 h)).mono hm

/-- Nothing that was there has turned: the relation stays. -/
theorem SR.later {w0 : W0} {μ : Mu} {σ : St} {w w' : World} (h : SR w0 μ σ w) (hb : RowKit.Below w.heap.size w w') : SR w0 μ σ w' where
  below := ⟨hb.os.trans h.below.os, hb.tape.trans h.below.tape, hb.output.trans h.below.output, Nat.le_trans h.below.size hb.size, fun b hb1 hf => by
    rw [hb.block b (Nat.lt_of_lt_of_le hb1 h.below.size)]
    exact h.below.block b hb1 hf⟩
  lt := fun b p hp => ⟨(h.lt b p hp).1, Nat.lt_of_lt_of_le (h.lt b p hp).2 hb.size⟩
  out := h.out
  obj := fun b p a hp ha => by
    obtain ⟨o, ho, hr⟩ := h.obj b p a hp ha
    exact ⟨o, by rw [hb.block _ (h.lt b p hp).2]; exact ho, hr⟩
  inj := h.inj

theorem keysSum_ok {f fk : FuncId} {tm : TypeId} (hen : ∀ args w, (callFunc f args).run P w = .ok (.enter f args) w)
    (hk : ∀ (mb : Option Nat) (W : World), CallsIn Fence.wide 5 P f #[.map mb] W fun e w' => e = .returned (.func (.func fk) #[] #[.pointer (some ⟨W.heap.size, 0, none⟩)]) ∧ w' = W.alloc (.cells #[.map mb] tm)) :
    SumOk P f (keysSum fk) := by
  intro args σ v σ' hs w0 μ w h cargs hr
  unfold keysSum at hs
  split at hs
  · rename_i b
    cases hs
    obtain ⟨c0, _, ⟨p, hp, rfl⟩, h2, rfl⟩ := hr
    simp only [RL] at h2; subst h2
    refine .inl ⟨hen _ _, calls_fr (hk (some p.blk) w) ?_⟩
    rintro e w' ⟨rfl, rfl⟩
    obtain ⟨h1, h2⟩ := h.alloc (a := .boxed (.map b)) (O := .cells #[.map (some p.blk)] tm) (p := ⟨w.heap.size, 0, 1⟩) rfl
      ⟨⟨_, _, _, rfl, p, μ.le_add _ h.next_none _ _ hp, rfl⟩, rfl, h.below.new⟩
    exact ⟨_, _, rfl, h1, h2, _, [], _, rfl, rfl, ⟨_, _, ⟨_, Mu.add_same _ _ _, rfl⟩, rfl, rfl⟩, rfl⟩
  · cases hs

/-! ### Sorted -/

theorem insStr_perm (x : List UInt8) : ∀ l, (insStr x l).Perm (x :: l)
  | [] => .refl _
  | y :: ys => by
    simp only [insStr]
    split
    · exact ((insStr_perm x ys).cons y).trans (.swap x y ys)
    · exact .refl _

theorem ltBytes_lt : ∀ (x y : List UInt8), ltBytes x y = true → x < y
  | [], [], h => by simp [ltBytes] at h
  | _ :: _, [], h => by simp [ltBytes] at h
  | [], _ :: _, _ => by simp
  | a :: x, b :: y, h => by
    simp only [ltBytes] at h
    rw [List.cons_lt_cons_iff]
    split at h
    · rename_i hb
      exact .inr ⟨UInt8.toNat_inj.1 (Nat.eq_of_beq_eq_true hb), ltBytes_lt x y h⟩
    · exact .inl (UInt8.lt_iff_toNat_lt.2 (Nat.blt_eq.mp h))

theorem rising_lt : ∀ (l : List (List UInt8)), rising l = true → l.Pairwise (fun a b => a < b)
  | [], _ => .nil
  | [x], _ => List.pairwise_singleton _ _
  | x :: y :: l, h => by
    simp only [rising, Bool.and_eq_true] at h
    have h1 : x < y := ltBytes_lt _ _ h.1
    have ih := rising_lt (y :: l) (by simpa only [rising] using h.2)
    refine List.pairwise_cons.2 ⟨fun z hz => ?_, ih⟩
    rcases List.mem_cons.1 hz with rfl | hz
    · exact h1
    · exact List.lt_trans h1 (List.rel_of_pairwise_cons ih hz)

def keyOfE (e : AEntry) : List UInt8 := match e.key with | .str s => s | _ => []

theorem sortKeys_ok : ∀ {es : List AEntry} {ks : List (List UInt8)}, sortKeys es = some ks → ks.Perm (es.map keyOfE) ∧ ∀ e ∈ es, ∃ s, e.key = .str s ∧ s.length ≤ 100000
  | [], ks, h => by simp only [sortKeys] at h; cases h; exact ⟨.refl _, fun _ h => by cases h⟩
  | e :: es, ks, h => by
    simp only [sortKeys] at h
    split at h
    · rename_i s l hk hl
      split at h
      · rename_i hlen
        cases h
        obtain ⟨h1, h2⟩ := sortKeys_ok hl
        refine ⟨(insStr_perm s l).trans ?_, fun x hx => ?_⟩
        · have : keyOfE e = s := by simp only [keyOfE, hk]
          rw [List.map_cons, this]
          exact h1.cons s
        · rcases List.mem_cons.1 hx with rfl | hx
          · exact ⟨s, hk, by simpa using hlen⟩
          · exact h2 x hx
      · cases h
    · cases h

theorem noBorn_ok {n : Nat} : ∀ {es : List AEntry}, noBorn n es = true → ∀ e ∈ es, e.born ≠ n
  | [], _, _, h => by cases h
  | x :: es, h, e, he => by
    simp only [noBorn] at h
    split at h
    · cases h
    · rename_i hb
      rcases List.mem_cons.1 he with rfl | he
      · intro e
        rw [e] at hb
        simp at hb
      · exact noBorn_ok h e he

theorem stampsOk_ok {clock : Nat} : ∀ {es : List AEntry}, stampsOk clock es = true → (∀ e ∈ es, e.born < clock) ∧ (es.map (·.born)).Nodup
  | [], _ => ⟨fun _ h => by (cases h), .nil⟩
  | x :: es, h => by
    simp only [stampsOk, Bool.and_eq_true] at h
    obtain ⟨h1, h2, h3⟩ := h
    obtain ⟨i1, i2⟩ := stampsOk_ok h3
    refine ⟨fun e he => ?_, ?_⟩
    · rcases List.mem_cons.1 he with rfl | he
      · exact Nat.blt_eq.mp h1
      · exact i1 e he
    · rw [List.map_cons, List.nodup_cons]
      refine ⟨fun hm => ?_, i2⟩
      obtain ⟨y, hy, e⟩ := List.mem_map.1 hm
      exact noBorn_ok h2 y hy e

theorem REs_born {μ : Mu} {es : List AEntry} {cs : List MapEntry} (h : REs μ es cs) : cs.map (·.born) = es.map (·.born) := by
  induction h with
  | nil => rfl
  | cons hk hv hb _ ih => simp only [List.map_cons, hb, ih]

theorem REs_keys {μ : Mu} {es : List AEntry} {cs : List MapEntry} (h : REs μ es cs) (hs : ∀ e ∈ es, ∃ s, e.key = .str s ∧ s.length ≤ 100000) :
    (∀ c ∈ cs, ∃ ba : ByteArray, c.key = .string ba ∧ ba.data.toList.length ≤ 100000) ∧ cs.map (fun c => match c.key with | .string ba => ba.data.toList | _ => []) = es.map keyOfE := by
  induction h with
  | nil => exact ⟨fun _ h => by (cases h), rfl⟩
  | @cons e c es cs hk hv hb _ ih =>
    obtain ⟨i1, i2⟩ := ih (fun x hx => hs x (List.mem_cons_of_mem _ hx))
    obtain ⟨s, h1, h2⟩ := hs e (List.mem_cons_self ..)
    rw [h1] at hk
    obtain ⟨ba, h3, h4⟩ := hk
    refine ⟨fun x hx => ?_, ?_⟩
    · rcases List.mem_cons.1 hx with rfl | hx
      · exact ⟨ba, h3, by rw [h4]; exact h2⟩
      · exact i1 x hx
    · simp only [List.map_cons, i2, h3, keyOfE, h1, h4]

/-- How a map's values read: as nothing. -/
def blank : Value → Option (DataW Unit × List MemPlace) := fun _ => some (.lit (.bool false), [])

theorem sortedSum_ok {f fk : FuncId} {kt : TypeId} (hkt : P.underlying kt = some .string) (hen : ∀ args w, (callFunc f args).run P w = .ok (.enter f args) w)
    (hs : ∀ (b nn : Nat) (D0 : DataW Unit) (w : World) (Bm : Nat), Bm < w.heap.size → w.cell? ⟨Bm, 0, none⟩ = some (.map (some b)) → w.ownsMap P kt blank b nn D0 → Maps.size D0 ≤ maxLen → Maps.size D0 * 16 ≤ 140737488355328 →
      CallsIn Fence.wide 5 P f #[.func (.func fk) #[] #[.pointer (some ⟨Bm, 0, none⟩)]] w fun e w' => ∃ (v : Value) (ss : List (List UInt8)), e = .returned v ∧ ss.Perm (strKeys D0) ∧
        w'.ownsRow w.heap.size kt 1 v ss.length ((ss.mergeSort (fun x y => decide (x ≤ y))).map encStr) ∧ (v = .slice none 0 0 ↔ ss = []) ∧ RowKit.Below w.heap.size w w') :
    SumOk P f (sortedSum fk) := by
  intro args σ v σ' hsum w0 μ w h cargs hr
  unfold sortedSum at hsum
  split at hsum
  · rename_i g bx
    split at hsum
    · rename_i b hg hbx
      have hg := Nat.eq_of_beq_eq_true hg
      subst hg
      split at hsum
      · rename_i es clock hb
        split at hsum
        · rename_i ks hks hst
          simp only [Bool.and_eq_true, Nat.ble_eq] at hst
          obtain ⟨hst, hlen⟩ := hst
          split at hsum
          · rename_i hrise
            obtain ⟨c0, _, ⟨g', a, c, rfl, ha, ⟨q0, _, ⟨q, hq, rfl⟩, hc2, rfl⟩, rfl⟩, h2, rfl⟩ := hr
            simp only [RL] at h2 hc2 ha; subst h2; subst hc2; subst ha
            obtain ⟨O, hO, ⟨cv, e, fr, rfl, p, hp, rfl⟩, hoff, _⟩ := h.obj bx q _ hq hbx
            obtain ⟨O, hO2, ces, rfl, hes, _⟩ := h.obj b p _ hp hb
            obtain ⟨hperm, hkeys⟩ := sortKeys_ok hks
            obtain ⟨hck, hcl⟩ := REs_keys hes hkeys
            obtain ⟨hs1, hs2⟩ := stampsOk_ok hst
            have hcn := REs_length hes
            have hcn' : ces.size = es.length := by rw [← hcn]; simp
            have hnd : (es.map keyOfE).Nodup := hperm.nodup_iff.1 (List.Pairwise.imp (fun {a b} (hab : a < b) => (fun (e : a = b) => List.lt_irrefl a (by rw [← e] at hab; exact hab) : a ≠ b)) (rising_lt ks hrise))
            have hstamp : Stamped ces clock := by
              refine ⟨fun x hx => ?_, by rw [REs_born hes]; exact hs2, ?_⟩
              · have : x.born ∈ es.map (·.born) := by rw [← REs_born hes]; exact List.mem_map.2 ⟨x, hx, rfl⟩
                obtain ⟨y, hy, e⟩ := List.mem_map.1 this
                rw [← e]; exact hs1 y hy
              · rw [← hcl] at hnd
                have hnd2 := List.pairwise_map.1 hnd
                refine List.pairwise_map.2 (hnd2.imp fun {x y} hxy e => hxy ?_)
                simp only [e]
            have hread : ∀ x ∈ ces.toList, ∃ s : List UInt8, keyOf P kt x.key = some (.string s) ∧ (match x.key with | .string ba => ba.data.toList | _ => []) = s := fun x hx => by
              obtain ⟨ba, h1, h2⟩ := hck x hx
              rw [h1]
              refine ⟨_, keyOf_string_mk hkt ?_, rfl⟩
              have : ba.size = ba.data.toList.length := rfl
              unfold maxLen; omega
            have hfit : Fit P kt blank ces clock := by
              refine ⟨by unfold maxLen; omega, hstamp, fun x hx => ?_⟩
              obtain ⟨s, h1, _⟩ := hread x hx
              exact ⟨(.string s, .lit (.bool false)), by simp [rd, h1, blank]⟩
            have hrg : ∀ x ∈ ces.toList, strOf (rg P kt blank x).1 = (match x.key with | .string ba => ba.data.toList | _ => []) := fun x hx => by
              obtain ⟨s, h1, h2⟩ := hread x hx
              rw [h2]
              simp [rg, rd, h1, blank, strOf]
            have hown : w.ownsMap P kt blank p.blk ces.size (.map ((ces.toList.map (rg P kt blank)).foldr DataW.insert [])) := ⟨ces, clock, hO2, hfit, Nat.le_refl _, rfl⟩
            have hsize : Maps.size (.map ((ces.toList.map (rg P kt blank)).foldr DataW.insert []) : DataW Unit) = es.length := by
              show List.length _ = _
              rw [(WideShapes.sorted_perm _).length_eq, List.length_map, hcn]
            have hstr : (strKeys (.map ((ces.toList.map (rg P kt blank)).foldr DataW.insert []) : DataW Unit)).Perm ks := by
              refine (((WideShapes.sorted_perm _).map _).trans ?_).trans hperm.symm
              rw [List.map_map, ← hcl]
              refine List.Perm.of_eq (List.map_congr_left fun x hx => ?_)
              exact hrg x hx
            have hqlt := (h.lt bx q hq).2
            have hcell : w.cell? ⟨q.blk, 0, none⟩ = some (.map (some p.blk)) := by simp [World.cell?, hO]
            have hoff' : (⟨q.blk, q.off + 0, none⟩ : Addr) = ⟨q.blk, 0, none⟩ := by rw [hoff]
            have key := hs p.blk ces.size _ w q.blk hqlt hcell hown (by rw [hsize]; unfold maxLen; omega) (by rw [hsize]; omega)
            refine .inl ⟨hen _ _, calls_fr (n := 5) (by simpa only [hoff'] using key) ?_⟩
            rintro e' w' ⟨cv, ss, rfl, hS, hrow, hnil, hbel⟩
            have hsort : ss.mergeSort (fun x y => decide (x ≤ y)) = ks := by
              have h1 := mergeSort_of_perm (hS.trans hstr)
              refine h1.trans (List.mergeSort_of_pairwise ((rising_lt ks hrise).imp fun {a b} hab => ?_))
              exact decide_eq_true (List.le_of_lt hab)
            have hl := h.later hbel
            have hssl : ss.length = ks.length := (hS.trans hstr).length_eq
            rw [hsort] at hrow
            cases ks with
            | nil =>
              simp only [] at hsum
              cases hsum
              have : ss = [] := List.length_eq_zero_iff.1 hssl
              rw [hnil.2 this]
              exact ⟨μ, _, rfl, hl, Ext.refl _ _, rfl⟩
            | cons k l =>
              simp only [newRowA] at hsum
              cases hsum
              obtain ⟨hrl, ⟨hv, hz⟩ | ⟨gb, cap, cur, rfl, hbase, hgb, r1, r2, r3, r4⟩⟩ := hrow
              · rw [hssl] at hz; cases hz
              · have hle := μ.le_add (Loc.mk gb 0 cur.size) h.next_none
                obtain ⟨k1, k2⟩ := hl.over (a := .cells false ((k :: l).map .str)) (q := ⟨gb, 0, cur.size⟩) hgb (fun c r d hc _ e => by
                  have := (h.lt c r hc).2
                  rw [e] at this
                  exact absurd this (Nat.not_lt.2 hbase))
                  ⟨cur, kt, (0, 0), rfl, rfl, fun i x hx => by
                    rw [List.getElem?_map] at hx
                    cases hki : (k :: l)[i]? with
                    | none => rw [hki] at hx; cases hx
                    | some s =>
                      rw [hki] at hx
                      cases hx
                      refine ⟨encStr s, ?_, ⟨_, rfl, rfl⟩⟩
                      have h1 : (((k :: l).map encStr))[i]? = some (encStr s) := by rw [List.getElem?_map, hki]; rfl
                      rw [← r4, List.getElem?_take] at h1
                      have h2 : cur.toList[i]? = some (encStr s) := by
                        split at h1
                        · exact h1
                        · cases h1
                      simpa using h2, fun _ => ⟨.inl (Nat.le_trans h.below.size hbase), rfl⟩⟩
                rw [List.length_cons] at hssl
                refine ⟨_, _, rfl, k1, k2, _, cap, by rw [hssl], ?_, ?_, fun _ => ⟨_, Mu.add_same _ _ _, rfl, ?_⟩, _, Mu.add_same _ _ _⟩
                · omega
                · simp only [Cap.ok]; omega
                · simp only []; omega
          · cases hsum
        · cases hsum
      · cases hsum
    · cases hsum
  · cases hsum

end Go.AI

/- slices.Sorted of maps.Keys, of numbers: the abstract interpreter's answer holds. -/
namespace Go.AI
open Go.RowKit Go.Maps Go.Proofs Go.MapKept
open Go.WideElems (Fit rd rg)
variable {P : Program} {pt : PT}

theorem insInt_perm (x : Int) : ∀ l, (insInt x l).Perm (x :: l)
  | [] => .refl _
  | y :: ys => by
    simp only [insInt]
    split
    · exact .refl _
    · exact ((insInt_perm x ys).cons y).trans (.swap x y ys)

theorem risingI_lt : ∀ (l : List Int), risingI l = true → l.Pairwise (fun a b => a < b)
  | [], _ => .nil
  | [x], _ => List.pairwise_singleton _ _
  | x :: y :: l, h => by
    simp only [risingI, Bool.and_eq_true, zle_eq, Bool.not_eq_true', decide_eq_false_iff_not] at h
    have h1 : x < y := by omega
    have ih := risingI_lt (y :: l) (by simpa only [risingI, Bool.and_eq_true, zle_eq, Bool.not_eq_true', decide_eq_false_iff_not] using h.2)
    refine List.pairwise_cons.2 ⟨fun z hz => ?_, ih⟩
    rcases List.mem_cons.1 hz with rfl | hz
    · exact h1
    · exact Int.lt_trans h1 (List.rel_of_pairwise_cons ih hz)

def keyOfI (e : AEntry) : Int := match e.key with | .int _ z => z | _ => 0

theorem sortKeysI_ok : ∀ {es : List AEntry} {ks : List Int}, sortKeysI es = some ks → ks.Perm (es.map keyOfI) ∧ ∀ e ∈ es, ∃ n : Nat, e.key = .int .i64 (.ofNat n) ∧ n ≤ 1000000000
  | [], ks, h => by simp only [sortKeysI] at h; cases h; exact ⟨.refl _, fun _ h => by cases h⟩
  | e :: es, ks, h => by
    simp only [sortKeysI] at h
    split at h
    · rename_i n l hk hl
      split at h
      · rename_i hlen
        cases h
        obtain ⟨h1, h2⟩ := sortKeysI_ok hl
        refine ⟨(insInt_perm _ l).trans ?_, fun x hx => ?_⟩
        · have : keyOfI e = .ofNat n := by simp only [keyOfI, hk]
          rw [List.map_cons, this]
          exact h1.cons _
        · rcases List.mem_cons.1 hx with rfl | hx
          · exact ⟨n, hk, by simpa using hlen⟩
          · exact h2 x hx
      · cases h
    · cases h

theorem REs_keysI {μ : Mu} {es : List AEntry} {cs : List MapEntry} (h : REs μ es cs) (hs : ∀ e ∈ es, ∃ n : Nat, e.key = .int .i64 (.ofNat n) ∧ n ≤ 1000000000) :
    (∀ c ∈ cs, ∃ z : Int, c.key = .int .i64 z ∧ 0 ≤ z ∧ z ≤ 1000000000) ∧ cs.map (fun c => match c.key with | .int _ z => z | _ => 0) = es.map keyOfI := by
  induction h with
  | nil => exact ⟨fun _ h => by (cases h), rfl⟩
  | @cons e c es cs hk hv hb _ ih =>
    obtain ⟨i1, i2⟩ := ih (fun x hx => hs x (List.mem_cons_of_mem _ hx))
    obtain ⟨n, h1, h2⟩ := hs e (List.mem_cons_self ..)
    rw [h1] at hk
    simp only [R] at hk
    refine ⟨fun x hx => ?_, ?_⟩
    · rcases List.mem_cons.1 hx with rfl | hx
      · exact ⟨_, hk, Int.natCast_nonneg n, by show (n : Int) ≤ 1000000000; omega⟩
      · exact i1 x hx
    · simp only [List.map_cons, i2, hk, keyOfI, h1]

theorem wf_small {z : Int} (h0 : 0 ≤ z) (h1 : z ≤ 1000000000) : (Lit.int .i64 z).wf = true := by
  have e1 : IntKind.i64.min = -9223372036854775808 := by decide
  have e2 : IntKind.i64.max = 9223372036854775807 := by decide
  simp only [Lit.wf, Bool.and_eq_true, decide_eq_true_eq, e1, e2]
  omega

theorem sortedIntSum_ok {f fk : FuncId} {kt : TypeId} (hkt : P.underlying kt = some (.int .i64)) (hen : ∀ args w, (callFunc f args).run P w = .ok (.enter f args) w)
    (hs : ∀ (b nn : Nat) (D0 : DataW Unit) (w : World) (Bm : Nat), Bm < w.heap.size → w.cell? ⟨Bm, 0, none⟩ = some (.map (some b)) → w.ownsMap P kt blank b nn D0 → Maps.size D0 ≤ maxLen → Maps.size D0 * 8 ≤ 140737488355328 →
      CallsIn Fence.wide 5 P f #[.func (.func fk) #[] #[.pointer (some ⟨Bm, 0, none⟩)]] w fun e w' => ∃ (v : Value) (ss : List Int), e = .returned v ∧ ss.Perm (intKeys D0) ∧
        w'.ownsRow w.heap.size kt 1 v ss.length ((ss.mergeSort (fun x y => decide (x ≤ y))).map encZ) ∧ (v = .slice none 0 0 ↔ ss = []) ∧ RowKit.Below w.heap.size w w') :
    SumOk P f (sortedIntSum fk) := by
  intro args σ v σ' hsum w0 μ w h cargs hr
  unfold sortedIntSum at hsum
  split at hsum
  · rename_i g bx
    split at hsum
    · rename_i b hg hbx
      have hg := Nat.eq_of_beq_eq_true hg
      subst hg
      split at hsum
      · rename_i es clock hb
        split at hsum
        · rename_i ks hks hst
          simp only [Bool.and_eq_true, Nat.ble_eq] at hst
          obtain ⟨hst, hlen⟩ := hst
          split at hsum
          · rename_i hrise
            obtain ⟨c0, _, ⟨g', a, c, rfl, ha, ⟨q0, _, ⟨q, hq, rfl⟩, hc2, rfl⟩, rfl⟩, h2, rfl⟩ := hr
            simp only [RL] at h2 hc2 ha; subst h2; subst hc2; subst ha
            obtain ⟨O, hO, ⟨cv, e, fr, rfl, p, hp, rfl⟩, hoff, _⟩ := h.obj bx q _ hq hbx
            obtain ⟨O, hO2, ces, rfl, hes, _⟩ := h.obj b p _ hp hb
            obtain ⟨hperm, hkeys⟩ := sortKeysI_ok hks
            obtain ⟨hck, hcl⟩ := REs_keysI hes hkeys
            obtain ⟨hs1, hs2⟩ := stampsOk_ok hst
            have hcn := REs_length hes
            have hcn' : ces.size = es.length := by rw [← hcn]; simp
            have hnd : (es.map keyOfI).Nodup := hperm.nodup_iff.1 (List.Pairwise.imp (fun {a b} (hab : a < b) => (Int.ne_of_lt hab : a ≠ b)) (risingI_lt ks hrise))
            have hstamp : Stamped ces clock := by
              refine ⟨fun x hx => ?_, by rw [REs_born hes]; exact hs2, ?_⟩
              · have : x.born ∈ es.map (·.born) := by rw [← REs_born hes]; exact List.mem_map.2 ⟨x, hx, rfl⟩
                obtain ⟨y, hy, e⟩ := List.mem_map.1 this
                rw [← e]; exact hs1 y hy
              · rw [← hcl] at hnd
                have hnd2 := List.pairwise_map.1 hnd
                refine List.pairwise_map.2 (hnd2.imp fun {x y} hxy e => hxy ?_)
                simp only [e]
            have hread : ∀ x ∈ ces.toList, ∃ s : Int, keyOf P kt x.key = some (.int .i64 s) ∧ (match x.key with | .int _ z => z | _ => 0) = s := fun x hx => by
              obtain ⟨z, h1, h2, h3⟩ := hck x hx
              rw [h1]
              refine ⟨_, keyOf_int_mk hkt ?_, rfl⟩
              exact wf_small h2 h3
            have hfit : Fit P kt blank ces clock := by
              refine ⟨by unfold maxLen; omega, hstamp, fun x hx => ?_⟩
              obtain ⟨s, h1, _⟩ := hread x hx
              exact ⟨(.int .i64 s, .lit (.bool false)), by simp [rd, h1, blank]⟩
            have hrg : ∀ x ∈ ces.toList, intOf (rg P kt blank x).1 = (match x.key with | .int _ z => z | _ => 0) := fun x hx => by
              obtain ⟨s, h1, h2⟩ := hread x hx
              rw [h2]
              simp [rg, rd, h1, blank, Go.intOf]
            have hown : w.ownsMap P kt blank p.blk ces.size (.map ((ces.toList.map (rg P kt blank)).foldr DataW.insert [])) := ⟨ces, clock, hO2, hfit, Nat.le_refl _, rfl⟩
            have hsize : Maps.size (.map ((ces.toList.map (rg P kt blank)).foldr DataW.insert []) : DataW Unit) = es.length := by
              show List.length _ = _
              rw [(WideShapes.sorted_perm _).length_eq, List.length_map, hcn]
            have hstr : (intKeys (.map ((ces.toList.map (rg P kt blank)).foldr DataW.insert []) : DataW Unit)).Perm ks := by
              refine (((WideShapes.sorted_perm _).map _).trans ?_).trans hperm.symm
              rw [List.map_map, ← hcl]
              refine List.Perm.of_eq (List.map_congr_left fun x hx => ?_)
              exact hrg x hx
            have hqlt := (h.lt bx q hq).2
            have hcell : w.cell? ⟨q.blk, 0, none⟩ = some (.map (some p.blk)) := by simp [World.cell?, hO]
            have hoff' : (⟨q.blk, q.off + 0, none⟩ : Addr) = ⟨q.blk, 0, none⟩ := by rw [hoff]
            have key := hs p.blk ces.size _ w q.blk hqlt hcell hown (by rw [hsize]; unfold maxLen; omega) (by rw [hsize]; omega)
            refine .inl ⟨hen _ _, calls_fr (n := 5) (by simpa only [hoff'] using key) ?_⟩
            rintro e' w' ⟨cv, ss, rfl, hS, hrow, hnil, hbel⟩
            have hsort : ss.mergeSort (fun x y => decide (x ≤ y)) = ks := by
              have h1 := mergeSort_of_perm_i (hS.trans hstr)
              refine h1.trans (List.mergeSort_of_pairwise ((risingI_lt ks hrise).imp fun {a b} hab => ?_))
              exact decide_eq_true (Int.le_of_lt hab)
            have hl := h.later hbel
            have hssl : ss.length = ks.length := (hS.trans hstr).length_eq
            rw [hsort] at hrow
            cases ks with
            | nil =>
              simp only [] at hsum
              cases hsum
              have : ss = [] := List.length_eq_zero_iff.1 hssl
              rw [hnil.2 this]
              exact ⟨μ, _, rfl, hl, Ext.refl _ _, rfl⟩
            | cons k l =>
              simp only [newRowA] at hsum
              cases hsum
              obtain ⟨hrl, ⟨hv, hz⟩ | ⟨gb, cap, cur, rfl, hbase, hgb, r1, r2, r3, r4⟩⟩ := hrow
              · rw [hssl] at hz; cases hz
              · have hle := μ.le_add (Loc.mk gb 0 cur.size) h.next_none
                obtain ⟨k1, k2⟩ := hl.over (a := .cells false ((k :: l).map (.int .i64))) (q := ⟨gb, 0, cur.size⟩) hgb (fun c r d hc _ e => by
                  have := (h.lt c r hc).2
                  rw [e] at this
                  exact absurd this (Nat.not_lt.2 hbase))
                  ⟨cur, kt, (0, 0), rfl, rfl, fun i x hx => by
                    rw [List.getElem?_map] at hx
                    cases hki : (k :: l)[i]? with
                    | none => rw [hki] at hx; cases hx
                    | some s =>
                      rw [hki] at hx
                      cases hx
                      refine ⟨encZ s, ?_, rfl⟩
                      have h1 : (((k :: l).map encZ))[i]? = some (encZ s) := by rw [List.getElem?_map, hki]; rfl
                      rw [← r4, List.getElem?_take] at h1
                      have h2 : cur.toList[i]? = some (encZ s) := by
                        split at h1
                        · exact h1
                        · cases h1
                      simpa using h2, fun _ => ⟨.inl (Nat.le_trans h.below.size hbase), rfl⟩⟩
                rw [List.length_cons] at hssl
                refine ⟨_, _, rfl, k1, k2, _, cap, by rw [hssl], ?_, ?_, fun _ => ⟨_, Mu.add_same _ _ _, rfl, ?_⟩, _, Mu.add_same _ _ _⟩
                · omega
                · simp only [Cap.ok]; omega
                · simp only []; omega
          · cases hsum
        · cases hsum
      · cases hsum
    · cases hsum
  · cases hsum

end Go.AI

/- base.Hex and strings.Join: the abstract interpreter's answers hold, where the calls' contracts do. -/
namespace Go.AI
open Go.RowKit
variable {P : Program} {pt : PT}

theorem calls_fr0 {f : FuncId} {args : Array Value} {w : World} {Q R : Ending → World → Prop} (h : Calls P f args w Q) (hm : ∀ e w', Q e w' → R e w') : CallsIn (FR none) 0 P f args w R := by
  rw [FR_none]
  exact (callsIn_wide.2 h).mono hm

theorem u8sOf_ok : ∀ {cs : List V} {l : List UInt8}, u8sOf cs = some l → l.length = cs.length ∧ ∀ (j : Nat), j < cs.length → cs[j]? = some (.int .u8 (.ofNat (l.getD j 0).toNat))
  | [], l, h => by simp only [u8sOf] at h; cases h; exact ⟨rfl, fun j hj => by simp at hj⟩
  | c :: cs, l, h => by
    unfold u8sOf at h
    split at h
    · rename_i heq; cases heq
    · rename_i n cs' heq
      cases heq
      split at h
      · rename_i r hn hr
        cases h
        obtain ⟨h1, h2⟩ := u8sOf_ok hr
        have hn := Nat.blt_eq.mp hn
        refine ⟨by simp [h1], fun j hj => ?_⟩
        cases j with
        | zero =>
          have : (UInt8.ofNat n).toNat = n := by simp; omega
          simp [this]
        | succ j => simpa using h2 j (by simpa using hj)
      · cases h
    · cases h

/-- The cells of a slice that has some. -/
theorem slice_cells {w0 : W0} {μ : Mu} {σ : St} {w : World} (h : SR w0 μ σ w) {b o n sz : Nat} {c : Cap} {cs : List V} {cv : Value} (hr : R μ (.slice b o (n + 1) c sz) cv) (hcs : readSlice σ sz (n + 1) (.slice b o (n + 1) c sz) = some cs) :
    ∃ p off cc, cv = .slice (some ⟨p, off, none⟩) (n + 1) cc ∧ n + 1 ≤ cc ∧ p < w.heap.size ∧ ∀ (j : Nat) (x : V), cs[j]? = some x → ∃ y, w.cell? ⟨p, off + j, none⟩ = some y ∧ R μ x y := by
  obtain ⟨ca, cc, rfl, hl, _, ha, _⟩ := hr
  obtain ⟨p, hp, rfl, _⟩ := ha (by omega)
  refine ⟨p.blk, p.off + o, cc, rfl, hl, (h.lt b p hp).2, fun j x hx => ?_⟩
  simp only [readSlice] at hcs
  split at hcs
  · rename_i ro rs hg
    obtain ⟨e1, _⟩ := takeN_spec _ _ _ hcs
    obtain ⟨O, hO, k, e, fr, rfl, _, hc, _⟩ := h.obj b p _ hp hg
    rw [e1, List.getElem?_take] at hx
    split at hx
    · rw [List.getElem?_drop] at hx
      obtain ⟨y, h1, h2⟩ := hc _ x hx
      refine ⟨y, ?_, h2⟩
      simp only [World.cell?, hO]
      rw [show p.off + o + j = p.off + (o + j) from by omega]
      simpa using h1
    · cases hx
  · cases hcs

theorem hexSum_ok {f : FuncId} (hen : ∀ args w, (callFunc f args).run P w = .ok (.enter f args) w)
    (hw : ∀ (blk off n c : Nat) (l : List UInt8) (w : World), blk < w.heap.size → l.length = n → n ≤ 1000 → (∀ j, j < n → w.cell? ⟨blk, off + j, none⟩ = some (.int .u8 (l.getD j 0).toNat)) →
      Calls P f #[.slice (some ⟨blk, off, none⟩) n c] w fun e w' => e = .returned (.string ⟨(hexOf l).toArray⟩) ∧ RowKit.Below w.heap.size w w') : SumOk P f hexSum := by
  intro args σ v σ' hs w0 μ w h cargs hr
  unfold hexSum at hs
  split at hs
  · rename_i b o n c z
    split at hs
    · rename_i cs hz hcs
      have hz := Nat.eq_of_beq_eq_true hz
      subst hz
      split at hs
      · rename_i l hl hn
        cases hs
        obtain ⟨cv, _, h1, h2, rfl⟩ := hr
        simp only [RL] at h2; subst h2
        obtain ⟨p, off, cc, rfl, _, hlt, hcell⟩ := slice_cells h h1 hcs
        obtain ⟨e1, e2⟩ := u8sOf_ok hl
        have hcl := readSlice_length hcs
        have hn := Nat.le_of_ble_eq_true hn
        refine .inl ⟨hen _ _, calls_fr0 (hw p off (n + 1) cc l w hlt (by omega) hn (fun j hj => ?_)) ?_⟩
        · obtain ⟨y, h3, h4⟩ := hcell j _ (e2 j (by omega))
          simp only [R] at h4
          subst h4
          exact h3
        · rintro e w' ⟨rfl, hb⟩
          exact ⟨μ, _, rfl, h.later hb, Ext.refl _ _, _, rfl, rfl⟩
      · cases hs
    · cases hs
  · cases hs

theorem strsOf_ok : ∀ {cs : List V} {l : List (List UInt8)}, strsOf cs = some l → cs = l.map .str
  | [], l, h => by simp only [strsOf] at h; cases h; rfl
  | c :: cs, l, h => by
    unfold strsOf at h
    split at h
    · rename_i heq; cases heq
    · rename_i s cs' heq
      cases heq
      split at h
      · rename_i r hr
        cases h
        rw [strsOf_ok hr]; rfl
      · cases h
    · cases h

theorem joinOf_eq (sep : List UInt8) : ∀ l : List (List UInt8), joinOf sep l = Lib.join l sep
  | [] => rfl
  | [x] => by simp only [joinOf]; exact (Lib.join_one x sep).symm
  | x :: y :: l => by
    show x ++ (sep ++ joinOf sep (y :: l)) = _
    rw [joinOf_eq sep (y :: l), Lib.join_cons, Lib.join_cons]
    simp [Lib.joinTail]

theorem joinSum_ok {f : FuncId} (hen : ∀ args w, (callFunc f args).run P w = .ok (.enter f args) w)
    (hw : ∀ (bk o c : Nat) (xs : List ByteArray) (sep : ByteArray) (w : World), (∀ (j : Nat) x, xs[j]? = some x → w.cell? ⟨bk, o + j, none⟩ = some (.string x)) → bk < w.heap.size → xs.length ≤ 140737488355328 → xs.length ≤ c →
      (Lib.join (xs.map (·.data.toList)) sep.data.toList).length ≤ 140737488355328 →
      Calls P f #[.slice (some ⟨bk, o, none⟩) xs.length c, .string sep] w fun e w' => e = .returned (.string ⟨(Lib.join (xs.map (·.data.toList)) sep.data.toList).toArray⟩) ∧ RowKit.Below w.heap.size w w') : SumOk P f joinSum := by
  intro args σ v σ' hs w0 μ w h cargs hr
  unfold joinSum at hs
  split at hs
  · rename_i b o n c z sep
    split at hs
    · rename_i cs hz hcs
      have hz := Nat.eq_of_beq_eq_true hz
      subst hz
      split at hs
      · rename_i l hl
        split at hs
        · rename_i hlen
          simp only [Bool.and_eq_true, Nat.ble_eq] at hlen
          obtain ⟨hlen, hcount⟩ := hlen
          cases hs
          obtain ⟨cv, _, h1, ⟨sv, _, ⟨sb, rfl, rfl⟩, h2, rfl⟩, rfl⟩ := hr
          simp only [RL] at h2; subst h2
          obtain ⟨p, off, cc, rfl, hcc, hlt, hcell⟩ := slice_cells h h1 hcs
          have e1 := strsOf_ok hl
          have hcl := readSlice_length hcs
          have hll : l.length = n + 2 := by rw [e1, List.length_map] at hcl; omega
          have hxs : (l.map fun s => (⟨s.toArray⟩ : ByteArray)).length = n + 2 := by rw [List.length_map, hll]
          have hmap : (l.map fun s => (⟨s.toArray⟩ : ByteArray)).map (·.data.toList) = l := by simp [List.map_map, Function.comp_def]
          rw [joinOf_eq] at hlen
          have key := hw p off cc (l.map fun s => (⟨s.toArray⟩ : ByteArray)) sb w (fun j x hx => ?_) hlt (by rw [hxs]; omega) (by rw [hxs]; exact hcc) (by rw [hmap]; omega)
          · rw [hxs, hmap] at key
            refine .inl ⟨hen _ _, calls_fr0 key ?_⟩
            rintro e w' ⟨rfl, hb⟩
            exact ⟨μ, _, rfl, h.later hb, Ext.refl _ _, _, rfl, by rw [joinOf_eq]⟩
          · rw [List.getElem?_map] at hx
            cases hlj : l[j]? with
            | none => rw [hlj] at hx; cases hx
            | some s =>
              rw [hlj] at hx
              cases hx
              obtain ⟨y, h3, ba, h4, h5⟩ := hcell j (.str s) (by rw [e1, List.getElem?_map, hlj]; rfl)
              rw [h3, h4]
              congr 2
              rw [← h5]
        · cases hs
      · cases hs
    · cases hs
  · cases hs

end Go.AI
