/- The abstract interpreter once more, by recursors whose branches are constants: quick in the kernel; and the same. -/
import Derived.Test.YtcfhmlpahjhigaaGreatDoorZA
import Derived.Laws.Strings
import Derived.Laws.StructEq
import Derived.Laws.Tables
namespace Go.AI
noncomputable section

/-! ### Operands -/

def eTmp (t : Tmp) (tm : T V) : Option V := tm.get t
def eConst (v : Value) (_ : T V) : Option V := ofValue 6 v
def eGlobal (_ : Nat) (_ : T V) : Option V := none
def eFunc (f : FuncId) (_ : T V) : Option V := some (.func (.func f) [] [])
def evalF (tm : T V) (x : Operand) : Option V := Operand.rec (motive := fun _ => T V → Option V) eTmp eConst eGlobal eFunc x tm

theorem evalF_eq (tm : T V) : evalF tm = evalA tm := by
  funext x; cases x <;> rfl

/-! ### Operations -/

abbrev OpK := PT → (Operand → Option V) → St → Option (ANext × St)
def valOf (σ : St) (x : V) : Option (ANext × St) := some (.val x, σ)
def rVF (σ : St) (r : Option V) : Option (ANext × St) := Option.rec (motive := fun _ => Option (ANext × St)) none (valOf σ) r
theorem rVF_eq (σ : St) (r : Option V) : rVF σ r = rV σ r := by cases r <;> rfl

def kNone : OpK := fun _ _ _ => none
def kMove (x : Operand) : OpK := fun _ ρ σ => rVF σ (ρ x)
def kPick (c a b : Operand) : OpK := fun _ ρ σ => oPick ρ σ c a b
def kAlloc (e : TypeId) : OpK := fun pt _ σ => oAlloc pt σ e
def kBox (_ : TypeId) (x : Operand) : OpK := fun _ ρ σ => oBox ρ σ x
def kBuild (t : TypeId) (ps : Array (Nat × Operand)) : OpK := fun pt ρ σ => oBuild pt ρ σ t ps
def kBuildSlice (t : TypeId) (n : Nat) (ps : Array (Nat × Operand)) : OpK := fun pt ρ σ => oBuildSlice pt ρ σ t n ps
def kUpdate (t : TypeId) (m k x : Operand) : OpK := fun pt ρ σ => oUpdate pt ρ σ t m k x
def kLoad (t : TypeId) (a : Operand) : OpK := fun pt ρ σ => oLoad pt ρ σ t a
def kStore (t : TypeId) (a x : Operand) : OpK := fun pt ρ σ => oStore pt ρ σ t a x
def kNat (_ : Nat) : OpK := kNone
def kNilCheck (x : Operand) : OpK := fun _ ρ σ => oNilCheck ρ σ x
def kBin (op : BinOp) (t : TypeId) (x y : Operand) (_ : TypeId) : OpK := fun pt ρ σ => oBin pt ρ σ op t x y
def kUn (op : UnOp) (_ : TypeId) (x : Operand) : OpK := fun _ ρ σ => oUn ρ σ op x
def kConv (src dst : TypeId) (x : Operand) : OpK := fun pt ρ σ => oConv pt ρ σ src dst x
def kStap (_ : TypeId) (_ : Operand) : OpK := kNone
def kIface (t : TypeId) (x : Operand) : OpK := fun pt ρ σ => oIface pt ρ σ t x
def kMakeFunc (fn : Fn) (first captured : Array Operand) : OpK := fun _ ρ σ => oMakeFunc ρ σ fn first captured
def kMakeMap (t : TypeId) (r : Option Operand) : OpK := fun pt ρ σ => oMakeMap pt ρ σ t r
def kMakeSlice (t : TypeId) (l c : Operand) : OpK := fun pt ρ σ => oMakeSlice pt ρ σ t l c
def kSlice (t : TypeId) (x : Operand) (lo hi mx : Option Operand) : OpK := fun pt ρ σ => oSlice pt ρ σ t x lo hi mx
def kFieldAddr (s : TypeId) (x : Operand) (f : Nat) : OpK := fun pt ρ σ => oFieldAddr pt ρ σ s x f
def kField (s : TypeId) (x : Operand) (f : Nat) : OpK := fun pt ρ σ => oField pt ρ σ s x f
def kIndexAddr (t : TypeId) (x i : Operand) : OpK := fun pt ρ σ => oIndexAddr pt ρ σ t x i
def kIndex (t : TypeId) (x i : Operand) : OpK := fun pt ρ σ => oIndex pt ρ σ t x i
def kLookup (t : TypeId) (m k : Operand) (ok : Bool) : OpK := fun pt ρ σ => oLookup pt ρ σ t m k ok
def kMapEntry (t : TypeId) (m k : Operand) : OpK := fun pt ρ σ => oMapEntry pt ρ σ t m k
def kEntryStore (_ : TypeId) (m s x : Operand) : OpK := fun _ ρ σ => oEntryStore ρ σ m s x
def kRange (t : TypeId) (x : Operand) : OpK := fun pt ρ σ => oRange pt ρ σ t x
def kNext (it : Operand) (s : Bool) : OpK := fun _ ρ σ => oNext ρ σ it s
def kOperand (_ : Operand) : OpK := kNone
def kAssert (x : Operand) (_ want : TypeId) (ok : Bool) : OpK := fun pt ρ σ => oAssert pt ρ σ x want ok
def kExtract (x : Operand) (i : Nat) : OpK := fun _ ρ σ => oExtract ρ σ x i
def kCall (c : Call) : OpK := fun pt ρ σ => oCall pt ρ σ c
def kGo (_ : Call) : OpK := kNone
def kDefer (c : Call) : OpK := fun _ ρ σ => oDefer ρ σ c
def kSend (_ _ : Operand) : OpK := kNone
def kRecv (_ : TypeId) (_ : Operand) (_ : Bool) : OpK := kNone
def kSelect (_ : Array SelectCase) (_ : Bool) : OpK := kNone

def opF (op : Op) : OpK :=
  Op.rec (motive := fun _ => OpK) kMove kMove kPick kAlloc kBox kBuild kBuildSlice kUpdate kLoad kStore kNat kNat kNilCheck kBin kUn kConv kStap kIface kMakeFunc kMakeMap kStap kMakeSlice kSlice
    kFieldAddr kField kIndexAddr kIndex kLookup kUpdate kMapEntry kEntryStore kRange kNext kOperand kAssert kExtract kCall kGo kDefer kOperand kSend kRecv kSelect op

theorem opF_eq (pt : PT) (ρ : Operand → Option V) (o : Oper) (σ : St) : opF o.op pt ρ σ = opA pt ρ o σ := by
  obtain ⟨dst, op, type, pos, after, guard⟩ := o
  cases op <;> first | rfl | (simp only [opF, kMove, rVF_eq, opA])

/-! ### One operation in its region -/

abbrev Res := Option (V × AAct × St)
abbrev Cl := ACall → St → Option (AEnd × St)

def gOk (v : V) (σ : St) (a : AAct) : Res := some (v, a, σ)
def putS (d : Tmp) (n : Nat) (v : V) (a : AAct) : Option AAct := Bool.rec (motive := fun _ => Option AAct) none (some ⟨a.tmps.set d v, a.defers⟩) (Nat.blt d n)
def putN (_ : Nat) (_ : V) (a : AAct) : Option AAct := some a
def putF (dst : Option Tmp) (n : Nat) (v : V) (a : AAct) : Option AAct := Option.rec (motive := fun _ => Nat → V → AAct → Option AAct) putN putS dst n v a
theorem putF_eq (n : Nat) (a : AAct) (dst : Option Tmp) (v : V) : putF dst n v a = putA n a dst v := by
  cases dst with
  | none => rfl
  | some d => unfold putF putS putA; cases h : Nat.blt d n <;> simp [h]

abbrev SK := Cl → Nat → Option Nat → Option Tmp → AAct → St → Res
def sPut (v : V) (n : Nat) (dst : Option Tmp) (a : AAct) (σ : St) : Res := Option.rec (motive := fun _ => Res) none (gOk v σ) (putF dst n v a)
def sVal (v : V) : SK := fun _ n _ dst a σ => sPut v n dst a σ
def sSkip : SK := fun _ n _ dst a σ => sPut .undef n dst a σ
def sEnd (n : Nat) (dst : Option Tmp) (a : AAct) (p : AEnd × St) : Res := Prod.rec (motive := fun _ => Res) (fun e σ => AEnd.rec (motive := fun _ => Res) (fun v => sPut v n dst a σ) e) p
def sCall (c : ACall) : SK := fun call n _ dst a σ => Option.rec (motive := fun _ => Res) none (sEnd n dst a) (call c σ)
def sDefer (fn : Fn) (cap args : List V) : SK := fun _ n rnd dst a σ => match rnd with
  | none => sPut .undef n dst { a with defers := .call fn cap args :: a.defers } σ
  | some _ => none
def sPanic (_ : V) : SK := fun _ _ _ _ _ _ => none
def sRec : SK := fun _ _ _ _ _ _ => none
def sNext (call : Cl) (n : Nat) (rnd : Option Nat) (dst : Option Tmp) (a : AAct) (p : ANext × St) : Res :=
  Prod.rec (motive := fun _ => Res) (fun nx σ => ANext.rec (motive := fun _ => SK) sVal sSkip sCall sDefer sPanic sRec nx call n rnd dst a σ) p
def stepF (call : Cl) (pt : PT) (n : Nat) (rnd : Option Nat) (o : Oper) (a : AAct) (σ : St) : Res :=
  Option.rec (motive := fun _ => Res) none (sNext call n rnd o.dst a) (opF o.op pt (evalF a.tmps) σ)

theorem sPut_eq (v : V) (n : Nat) (dst : Option Tmp) (a : AAct) (σ : St) : sPut v n dst a σ = match putA n a dst v with | some a' => some (v, a', σ) | none => none := by
  unfold sPut
  rw [putF_eq]
  cases putA n a dst v <;> rfl

theorem stepF_eq (call : Cl) (pt : PT) (n : Nat) (rnd : Option Nat) (o : Oper) (a : AAct) (σ : St) : stepF call pt n rnd o a σ = stepA call pt n rnd o a σ := by
  unfold stepF stepA
  rw [opF_eq, evalF_eq]
  cases opA pt (evalA a.tmps) o σ with
  | none => rfl
  | some p =>
    obtain ⟨nx, σ'⟩ := p
    cases nx with
    | val v => exact sPut_eq _ _ _ _ _
    | skip => exact sPut_eq _ _ _ _ _
    | call c =>
      show sCall c call n rnd o.dst a σ' = _
      unfold sCall
      simp only []
      cases call c σ' with
      | none => rfl
      | some p =>
        obtain ⟨e, σ''⟩ := p
        cases e with
        | ret v => exact sPut_eq _ _ _ _ _
    | defer fn cap args =>
      show sDefer fn cap args call n rnd o.dst a σ' = _
      unfold sDefer
      cases rnd with
      | none => exact sPut_eq _ _ _ _ _
      | some _ => rfl
    | panic v => rfl
    | recover => rfl

def wPlain : List Oper → T V → Option Bool := fun _ _ => some true
def wGuard (g : Nat × Bool) (ops : List Oper) (tm : T V) : Option Bool :=
  match nth ops g.1 with
  | some oj => match oj.dst with
    | some d => match tm.get d with
      | some (.bool b) => some (match b, g.2 with | true, true => true | false, false => true | _, _ => false)
      | some _ => some false
      | none => none
    | none => some false
  | none => some false
def wantedF (ops : List Oper) (tm : T V) (o : Oper) : Option Bool := Option.rec (motive := fun _ => List Oper → T V → Option Bool) wPlain wGuard o.guard ops tm
theorem wantedF_eq (ops : List Oper) (tm : T V) (o : Oper) : wantedF ops tm o = wantedA ops tm o := by
  unfold wantedF wantedA
  cases o.guard with
  | none => rfl
  | some g => rfl

/-! ### Operations in their order -/

abbrev Nx := AAct → St → Option (AAct × St)
def nStep (next : Nx) (r : V × AAct × St) : Option (AAct × St) := Prod.rec (motive := fun _ => Option (AAct × St)) (fun _ p => Prod.rec (motive := fun _ => Option (AAct × St)) next p) r
abbrev WK := Cl → PT → Nat → Option Nat → Oper → Nx → AAct → St → Option (AAct × St)
def nNo : WK := fun _ _ n _ o next a σ => Option.rec (motive := fun _ => Option (AAct × St)) none (fun a' => next a' σ) (putF o.dst n .undef a)
def nYes : WK := fun call pt n rnd o next a σ => Option.rec (motive := fun _ => Option (AAct × St)) none (nStep next) (stepF call pt n rnd o a σ)
def nWant (b : Bool) : WK := Bool.rec (motive := fun _ => WK) nNo nYes b
def nNone : WK := fun _ _ _ _ _ _ _ _ => none
def seqFS (all : List Oper) (call : Cl) (pt : PT) (n : Nat) (rnd : Option Nat) (o : Oper) (_ : List Oper) (next : Nx) : Nx :=
  fun a σ => Option.rec (motive := fun _ => WK) nNone nWant (wantedF all a.tmps o) call pt n rnd o next a σ
def seqN : Nx := fun a σ => some (a, σ)
def seqF (call : Cl) (pt : PT) (n : Nat) (rnd : Option Nat) (all l : List Oper) : Nx := List.rec (motive := fun _ => Nx) seqN (seqFS all call pt n rnd) l

theorem seqF_eq (call : Cl) (pt : PT) (n : Nat) (rnd : Option Nat) (all : List Oper) : ∀ l, seqF call pt n rnd all l = seqA call pt n rnd all l
  | [] => rfl
  | o :: os => by
    funext a σ
    rw [seqA_cons, ← seqF_eq call pt n rnd all os]
    show seqFS all call pt n rnd o os (seqF call pt n rnd all os) a σ = _
    unfold seqFS seqStep
    rw [wantedF_eq]
    cases wantedA all a.tmps o with
    | none => rfl
    | some b =>
      cases b with
      | false =>
        show nNo call pt n rnd o _ a σ = _
        unfold nNo
        rw [putF_eq]
        simp only []
        cases putA n a o.dst .undef <;> rfl
      | true =>
        show nYes call pt n rnd o _ a σ = _
        unfold nYes
        rw [stepF_eq]
        simp only []
        cases stepA call pt n rnd o a σ with
        | none => rfl
        | some p => rfl


/-! ### Regions whose order is drawn -/

abbrev Dx := List Ent → AAct → St → Option (AAct × St)
abbrev O2 := Option (AAct × St)
def dPut (next : Dx) (ps : List Ent) (σ : St) (r : Option AAct) : O2 := Option.rec (motive := fun _ => O2) none (fun a' => next ps a' σ) r
def dStep (next : Dx) (ps : List Ent) (r : V × AAct × St) : O2 := Prod.rec (motive := fun _ => O2) (fun _ p => Prod.rec (motive := fun _ => O2) (next ps) p) r
/-- the read's entry is kept -/
def dKeep (next : Dx) (ps : List Ent) (j : Nat) (o : Oper) (tm : T V) (nx : Nat) (rd : Bool) (r : V × AAct × St) : O2 :=
  Prod.rec (motive := fun _ => O2) (fun v p => Prod.rec (motive := fun _ => O2) (next (Bool.rec (motive := fun _ => List Ent) ps ({ i := j, o := o, want := true, tm := tm, v := v, next := nx } :: ps) rd)) p) r

def cVal (v : V) : Oper → Nat → AAct → St → St → Res := fun o n a σ σ' =>
  Bool.rec (motive := fun _ => Res) (sPut v n o.dst a σ') (Bool.rec (motive := fun _ => Res) none (sPut v n o.dst a σ') (Nat.beq σ'.next σ.next)) (isRead o)
def cNone : Oper → Nat → AAct → St → St → Res := fun _ _ _ _ _ => none
def cNext (o : Oper) (n : Nat) (a : AAct) (σ : St) (p : ANext × St) : Res :=
  Prod.rec (motive := fun _ => Res) (fun nx σ' => ANext.rec (motive := fun _ => Oper → Nat → AAct → St → St → Res) cVal cNone (fun _ => cNone) (fun _ _ _ => cNone) (fun _ => cNone) cNone nx o n a σ σ') p
def calmF (pt : PT) (n : Nat) (o : Oper) (a : AAct) (σ : St) : Res := Option.rec (motive := fun _ => Res) none (cNext o n a σ) (opF o.op pt (evalF a.tmps) σ)

theorem calmF_eq (pt : PT) (n : Nat) (o : Oper) (a : AAct) (σ : St) : calmF pt n o a σ = calmA pt n o a σ := by
  unfold calmF calmA
  rw [opF_eq, evalF_eq]
  cases opA pt (evalA a.tmps) o σ with
  | none => rfl
  | some p =>
    obtain ⟨nx, σ'⟩ := p
    cases nx with
    | val v =>
      show cVal v o n a σ σ' = _
      unfold cVal
      cases isRead o <;> cases hb : Nat.beq σ'.next σ.next <;> (simp only [hb, sPut_eq]) <;> rfl
    | _ => rfl

abbrev EK := Cl → PT → Nat → Option Nat → List Nat → Nat → Oper → Dx → List Ent → AAct → St → O2
def eNo : EK := fun _ _ n _ ms j o next ps a σ => dPut next (dropAhead ms j ps) σ (putF o.dst n .undef a)
def eYes : EK := fun call pt n rnd ms j o next ps a σ => Option.rec (motive := fun _ => O2) none (dStep next (dropAhead ms j ps)) (stepF call pt n rnd o a σ)
def eff (w : Bool) : EK := fun call pt n rnd ms j o next ps a σ =>
  Bool.rec (motive := fun _ => O2) none (Bool.rec (motive := fun _ => EK) eNo eYes w call pt n rnd ms j o next ps a σ) (recheck pt σ ps)
def cNo : EK := fun _ _ n _ _ _ o next ps a σ => dPut next ps σ (putF o.dst n .undef a)
def cYes : EK := fun _ pt n _ _ j o next ps a σ => Option.rec (motive := fun _ => O2) none (dKeep next ps j o a.tmps σ.next (isRead o)) (calmF pt n o a σ)
def calm (w : Bool) : EK := Bool.rec (motive := fun _ => EK) cNo cYes w
def dWant (w : Bool) : EK := fun call pt n rnd ms j o next ps a σ => Bool.rec (motive := fun _ => Bool → EK) calm eff (isEffect o) w call pt n rnd ms j o next ps a σ
def dNone : EK := fun _ _ _ _ _ _ _ _ _ _ _ => none
def dNil (pt : PT) : Dx := fun ps a σ => Bool.rec (motive := fun _ => O2) none (some (a, σ)) (recheck pt σ ps)
def dCons (call : Cl) (pt : PT) (n : Nat) (rnd : Option Nat) (ms : List Nat) (ops : List Oper) (j : Nat) (_ : List Nat) (next : Dx) : Dx := fun ps a σ =>
  Option.rec (motive := fun _ => O2) none (fun o => Option.rec (motive := fun _ => EK) dNone dWant (wantedF ops a.tmps o) call pt n rnd ms j o next ps a σ) (nth ops j)
def drawF (call : Cl) (pt : PT) (n : Nat) (rnd : Option Nat) (ms : List Nat) (ops : List Oper) (js : List Nat) : Dx := List.rec (motive := fun _ => Dx) (dNil pt) (dCons call pt n rnd ms ops) js

theorem drawF_eq (call : Cl) (pt : PT) (n : Nat) (rnd : Option Nat) (ms : List Nat) (ops : List Oper) : ∀ js, drawF call pt n rnd ms ops js = drawA call pt n rnd ms ops js
  | [] => by
    funext ps a σ
    show dNil pt ps a σ = _
    unfold dNil drawA
    cases recheck pt σ ps <;> rfl
  | j :: js => by
    funext ps a σ
    show dCons call pt n rnd ms ops j js (drawF call pt n rnd ms ops js) ps a σ = _
    rw [drawF_eq call pt n rnd ms ops js]
    unfold dCons
    rw [drawA]
    cases nth ops j with
    | none => rfl
    | some o =>
      simp only []
      rw [wantedF_eq]
      cases wantedA ops a.tmps o with
      | none => rfl
      | some w =>
        show dWant w call pt n rnd ms j o (drawA call pt n rnd ms ops js) ps a σ = _
        unfold dWant
        cases isEffect o with
        | true =>
          show eff w call pt n rnd ms j o (drawA call pt n rnd ms ops js) ps a σ = _
          unfold eff
          cases recheck pt σ ps with
          | false => rfl
          | true =>
            cases w with
            | false =>
              show eNo call pt n rnd ms j o _ ps a σ = _
              unfold eNo dPut
              rw [putF_eq]
              simp only []
              cases putA n a o.dst .undef <;> rfl
            | true =>
              show eYes call pt n rnd ms j o _ ps a σ = _
              unfold eYes
              rw [stepF_eq]
              simp only []
              cases stepA call pt n rnd o a σ with
              | none => rfl
              | some p => rfl
        | false =>
          cases w with
          | false =>
            show cNo call pt n rnd ms j o _ ps a σ = _
            unfold cNo dPut
            rw [putF_eq]
            simp only []
            cases putA n a o.dst .undef <;> rfl
          | true =>
            show cYes call pt n rnd ms j o _ ps a σ = _
            unfold cYes
            rw [calmF_eq]
            simp only []
            cases calmA pt n o a σ with
            | none => rfl
            | some p =>
              obtain ⟨v, a', σ'⟩ := p
              cases isRead o <;> rfl

def planned (call : Cl) (pt : PT) (n : Nat) (rnd : Option Nat) (ops : List Oper) (ms c : List Nat) : Nx :=
  fun a σ => Bool.rec (motive := fun _ => O2) none (drawF call pt n rnd ms ops c [] a σ) (planOk ops ms c)
def rDraw (call : Cl) (pt : PT) (n : Nat) (rnd : Option Nat) (ops : List Oper) : Nx := planned call pt n rnd ops (masks ops) (orderFrom (masks ops) ops ops.length 0)
def rSeq (call : Cl) (pt : PT) (n : Nat) (rnd : Option Nat) (ops : List Oper) : Nx := seqF call pt n rnd ops ops
def regionF (call : Cl) (pt : PT) (n : Nat) (rnd : Option Nat) (ops : Array Oper) (draw : Bool) : Nx :=
  Bool.rec (motive := fun _ => Cl → PT → Nat → Option Nat → List Oper → Nx) rSeq rDraw draw call pt n rnd ops.toList

theorem regionF_eq (call : Cl) (pt : PT) (n : Nat) (rnd : Option Nat) (ops : Array Oper) (draw : Bool) : regionF call pt n rnd ops draw = regionA call pt n rnd ops draw := by
  funext a σ
  unfold regionF regionA
  cases draw with
  | false => simp only [rSeq, seqF_eq]
  | true =>
    simp only [rDraw, planned, drawF_eq]
    cases planOk ops.toList (masks ops.toList) (orderFrom (masks ops.toList) ops.toList ops.toList.length 0) <;> rfl

/-! ### Code -/

abbrev O3 := Option (AExit × AAct × St)
def xPlain (p : AAct × St) : O3 := some (.normal, p)
def xRegion (call : Cl) (pt : PT) (n : Nat) (rnd : Option Nat) (_ : Nat) (ops : Array Oper) (draw : Bool) : Kont := fun a σ => Option.rec (motive := fun _ => O3) none xPlain (regionF call pt n rnd ops draw a σ)
abbrev QK := Kont → AAct × St → O3
def qNormal : QK := fun y p => Prod.rec (motive := fun _ => O3) y p
def qExit (j : Nat) : QK := fun _ p => some (.exit j, p)
def qRet : QK := fun _ p => some (.ret, p)
def qThen (y : Kont) (r : AExit × AAct × St) : O3 := Prod.rec (motive := fun _ => O3) (fun e p => AExit.rec (motive := fun _ => QK) qNormal qExit qRet e y p) r
def xSeq (_ _ : Code) (x y : Kont) : Kont := fun a σ => Option.rec (motive := fun _ => O3) none (qThen y) (x a σ)
def xCond (c : Operand) (_ _ : Code) (x y : Kont) : Kont := fun a σ =>
  match evalF a.tmps c with
  | some (.bool b) => Bool.rec (motive := fun _ => Kont) y x b a σ
  | _ => none
def bNormal (_ : Nat) (p : AAct × St) : O3 := some (.normal, p)
def bExit (j id : Nat) (p : AAct × St) : O3 := Bool.rec (motive := fun _ => O3) (some (.exit j, p)) (some (.normal, p)) (Nat.beq j id)
def bRet (_ : Nat) (p : AAct × St) : O3 := some (.ret, p)
def bOut (id : Nat) (r : AExit × AAct × St) : O3 := Prod.rec (motive := fun _ => O3) (fun e p => AExit.rec (motive := fun _ => Nat → AAct × St → O3) bNormal bExit bRet e id p) r
def xBlock (id : Nat) (_ : Code) (x : Kont) : Kont := fun a σ => Option.rec (motive := fun _ => O3) none (bOut id) (x a σ)
abbrev SR2 := Sum (AAct × St) (AExit × AAct × St)
def lNormal (p : AAct × St) : SR2 := .inl p
def lExit (j : Nat) (p : AAct × St) : SR2 := .inr (.exit j, p)
def lRet (p : AAct × St) : SR2 := .inr (.ret, p)
def lOut (r : AExit × AAct × St) : Option SR2 := some (Prod.rec (motive := fun _ => SR2) (fun e p => AExit.rec (motive := fun _ => AAct × St → SR2) lNormal lExit lRet e p) r)
def lRound (x : Kont) (s : AAct × St) : Option SR2 := Option.rec (motive := fun _ => Option SR2) none lOut (Prod.rec (motive := fun _ => O3) x s)
abbrev LF := AAct × St → Option SR2
def lGo (g : LF) (r : SR2) : Option SR2 := Sum.rec (motive := fun _ => Option SR2) g (fun r => some (.inr r)) r
def lTwice (g : LF) : LF := fun s => Option.rec (motive := fun _ => Option SR2) none (lGo g) (g s)
def loopF (f : LF) (k : Nat) : LF := Nat.rec (motive := fun _ => LF) f (fun _ g => lTwice g) k
def lEnd (r : SR2) : O3 := Sum.rec (motive := fun _ => O3) (fun _ => none) some r
def xLoop (_ : Code) (x : Kont) : Kont := fun a σ => Option.rec (motive := fun _ => O3) none lEnd (loopF (lRound x) 40 (a, σ))

def execF (call : Cl) (pt : PT) (n : Nat) (rnd : Option Nat) (fn : FuncId) (c : Code) : Kont :=
  Code.rec (motive := fun _ => Kont)
    (fun a σ => some (.normal, a, σ))
    (xRegion call pt n rnd)
    xSeq
    xCond
    xBlock
    xLoop
    (fun f ps assign body _ _ => exRange call pt n rnd fn f ps assign body)
    (fun id a σ => some (.exit id, a, σ))
    (fun _ _ _ _ => none)
    (fun _ _ _ => none)
    (fun _ _ _ => none)
    (fun a σ => some (.ret, a, σ))
    (fun _ _ _ => none) c

theorem loopF_eq (x : Kont) : ∀ k, loopF (lRound x) k = loopA (exRound x) k
  | 0 => by
    funext s
    obtain ⟨a, σ⟩ := s
    show lRound x (a, σ) = exRound x (a, σ)
    unfold lRound exRound
    simp only []
    cases x a σ with
    | none => rfl
    | some r => obtain ⟨e, a', σ'⟩ := r; cases e <;> rfl
  | k + 1 => by
    funext s
    show lTwice (loopF (lRound x) k) s = _
    rw [loopF_eq x k]
    unfold lTwice
    simp only [loopA]
    cases loopA (exRound x) k s with
    | none => rfl
    | some r => cases r <;> rfl

theorem execF_eq (call : Cl) (pt : PT) (n : Nat) (rnd : Option Nat) (fn : FuncId) : ∀ c, execF call pt n rnd fn c = execA call pt n rnd fn c := by
  intro c
  induction c with
  | skip => rfl
  | region id ops draw =>
    funext a σ
    show xRegion call pt n rnd id ops draw a σ = exRegion call pt n rnd ops draw a σ
    unfold xRegion exRegion
    rw [regionF_eq]
    cases regionA call pt n rnd ops draw a σ <;> rfl
  | seq x y ihx ihy =>
    funext a σ
    show xSeq x y (execF call pt n rnd fn x) (execF call pt n rnd fn y) a σ = exSeq (execA call pt n rnd fn x) (execA call pt n rnd fn y) a σ
    rw [ihx, ihy]
    unfold xSeq exSeq
    cases execA call pt n rnd fn x a σ with
    | none => rfl
    | some r => obtain ⟨e, a', σ'⟩ := r; cases e <;> rfl
  | cond c x y ihx ihy =>
    funext a σ
    show xCond c x y (execF call pt n rnd fn x) (execF call pt n rnd fn y) a σ = exCond c (execA call pt n rnd fn x) (execA call pt n rnd fn y) a σ
    rw [ihx, ihy]
    unfold xCond exCond
    rw [evalF_eq]
    cases evalA a.tmps c with
    | none => rfl
    | some v => cases v <;> first | rfl | (rename_i b; cases b <;> rfl)
  | block id x ih =>
    funext a σ
    show xBlock id x (execF call pt n rnd fn x) a σ = exBlock id (execA call pt n rnd fn x) a σ
    rw [ih]
    unfold xBlock exBlock
    cases execA call pt n rnd fn x a σ with
    | none => rfl
    | some r =>
      obtain ⟨e, a', σ'⟩ := r
      cases e <;> first | rfl | (rename_i j; show bExit j id _ = _; unfold bExit; simp only []; cases Nat.beq j id <;> rfl)
  | loop x ih =>
    funext a σ
    show xLoop x (execF call pt n rnd fn x) a σ = exLoop (execA call pt n rnd fn x) a σ
    rw [ih]
    unfold xLoop exLoop
    rw [loopF_eq]
    cases loopA (exRound (execA call pt n rnd fn x)) 40 (a, σ) with
    | none => rfl
    | some r => cases r <;> rfl
  | rangeFunc f ps assign body _ _ => rfl
  | exit id => rfl
  | scope x _ => rfl
  | label l => rfl
  | goto l => rfl
  | ret => rfl
  | refuse s => rfl

def bodyF (call : Cl) (pt : PT) (f : FuncId) (args : List V) (σ : St) : Option (Func × AAct × St) :=
  match pt.funcs.get f with
  | some fn => match fn.body with
    | some code => match Nat.ble args.length fn.ntmps with
      | true => match execF call pt fn.ntmps none f code { tmps := T.ofList args, defers := [] } σ with
        | some (.normal, a, σ') => some (fn, a, σ')
        | some (.ret, a, σ') => some (fn, a, σ')
        | _ => none
      | false => none
    | none => none
  | none => none

theorem bodyF_eq (call : Cl) (pt : PT) (f : FuncId) (args : List V) (σ : St) : bodyF call pt f args σ = bodyA call pt f args σ := by
  unfold bodyF bodyA
  simp only [execF_eq]
  rfl

def yieldF (call : Cl) (pt : PT) (l : Nat) (args : List V) (σ : St) : Option (AEnd × St) :=
  match σ.get l with
  | some (.loop L) => match setTmps L.ntmps L.params.toList args L.tmps with
    | some tm => match execF call pt L.ntmps (some l) L.fn L.assign { tmps := tm, defers := [] } σ with
      | some (.normal, a, σ') => match σ'.get l with
        | some (.loop L') => match L'.state with
          | .ready => match execF call pt L.ntmps (some l) L.fn L.body a (σ'.put l (some (.loop { L' with state := .busy }))) with
            | some (e, _, σ₂) => match σ₂.get l with
              | some (.loop L₂) => match e with
                | .normal => some (.ret (.bool true), σ₂.put l (some (.loop { L₂ with state := .ready, pending := none })))
                | .exit j => some (.ret (.bool false), σ₂.put l (some (.loop { L₂ with state := .done, pending := some (.exit j) })))
                | .ret => some (.ret (.bool false), σ₂.put l (some (.loop { L₂ with state := .done, pending := some .ret })))
              | _ => none
            | none => none
          | _ => none
        | _ => none
      | _ => none
    | none => none
  | _ => none

def callF (pt : PT) (sm : Sums) : Nat → Cl
  | 0, _, _ => none
  | k + 1, c, σ =>
    match c.fn with
    | .func f => match saysA sm f c.args σ with
      | some r => some r
      | none => match bodyF (callF pt sm k) pt f c.args σ with
        | some (fn, a, σ') => leaveA (callF pt sm k) pt fn.results.toList a.tmps a.defers σ'
        | none => none
    | .yield l => yieldF (callF pt sm k) pt l c.args σ
    | _ => none

theorem callF_eq (pt : PT) (sm : Sums) : ∀ k, callF pt sm k = callN pt sm k
  | 0 => by funext c σ; rfl
  | k + 1 => by
    funext c σ
    simp only [callF, callN, callF_eq pt sm k, bodyF_eq, yieldF, execF_eq]
    rfl

end
end Go.AI

/- Soundness, part 1: types, loads and stores. -/
namespace Go.AI
variable {P : Program} {pt : PT}

theorem und_ok (h : pt.Ok P) {t : TypeId} {d : TypeDesc} (e : pt.und t = some d) : P.underlying t = some d := by
  unfold PT.und at e
  split at e
  · rename_i i hi
    have h1 := h.types _ _ hi
    split at e
    · rename_i n u hd
      split at e
      · rename_i j hj
        have h2 := h.types _ _ hj
        simp at e
        unfold Program.underlying
        rw [h1]
        obtain ⟨desc, _, _, _, _, _, _, _, _, _⟩ := i
        simp only at hd; subst hd
        simp [h2, e]
      · simp at e
    · rename_i hne
      simp at e
      unfold Program.underlying
      rw [h1]
      obtain ⟨desc, _, _, _, _, _, _, _, _, _⟩ := i
      simp only at hne e
      subst e
      cases desc <;> first | rfl | exact absurd rfl (hne _ _)
  · simp at e

theorem run_und (h : pt.Ok P) {t : TypeId} {d : TypeDesc} (e : pt.und t = some d) (w : World) : (underlying t).run P w = .ok d w := by
  simp [underlying, und_ok h e]

theorem run_info (h : pt.Ok P) {t : TypeId} {i : TypeInfo} (e : pt.types.get t = some i) (w : World) : (typeInfo t).run P w = .ok i w := by
  simp [typeInfo, h.types _ _ e]

theorem run_size (h : pt.Ok P) {t : TypeId} {n : Nat} (e : pt.size t = some n) (w : World) : (sizeOf t).run P w = .ok n w := by
  unfold PT.size at e
  split at e
  · rename_i i hi
    simp at e
    simp [sizeOf, run_info h hi w, e]
  · simp at e

theorem run_agg (h : pt.Ok P) {t : TypeId} {b : Bool} (e : pt.isAgg t = some b) (w : World) : (isAgg t).run P w = .ok b w := by
  unfold PT.isAgg at e
  split at e
  · rename_i d hd
    simp at e
    simp only [isAgg, Sem.run_bind, run_und h hd w, Result.andThen_ok]
    cases d <;> simp [descAgg] at e <;> simp [e]
  · simp at e

theorem run_zero (h : pt.Ok P) {t : TypeId} {z : V} (e : pt.zero t = some z) (w : World) : ∃ v, (zeroValue t).run P w = .ok v w ∧ ∀ μ, R μ z v := by
  unfold PT.zero at e
  split at e
  · rename_i i hi
    split at e
    · rename_i v hv
      exact ⟨v, by simp [zeroValue, run_info h hi w, hv], fun μ => R_ofValue μ _ _ _ e⟩
    · simp at e
  · simp at e

/-! ### Rows of cells -/

theorem add_place (β q i : Nat) : (⟨β, q, none⟩ : Addr).add i = ⟨β, q + i, none⟩ := by
  unfold Addr.add; split
  · subst_vars; rfl
  · rfl

section
variable {w0 : W0} {μ : Mu} {σ : St} {w : World}

theorem run_load_cell (h : SR w0 μ σ w) {b o : Nat} {p : Loc} {ro : Bool} {cs : List V} {v : V} (hp : μ b = some p) (hg : σ.get b = some (.cells ro cs)) (hv : cs[o]? = some v) :
    ∃ cv, (load ⟨p.blk, p.off + o, none⟩).run P w = .ok cv w ∧ R μ v cv := by
  obtain ⟨cv, h1, h2⟩ := h.cell hp hg hv
  exact ⟨cv, by simp [h1], h2⟩

theorem run_loadCellsFrom (h : SR w0 μ σ w) {b : Nat} {p : Loc} {ro : Bool} {cs : List V} (hp : μ b = some p) (hg : σ.get b = some (.cells ro cs)) (q : Nat) :
    ∀ (n i o : Nat) (acc : Array Value) (vs : List V), q + i = p.off + o → takeN n (cs.drop o) = some vs →
      ∃ cvs, (loadCellsFrom ⟨p.blk, q, none⟩ i n acc).run P w = .ok (acc ++ cvs.toArray) w ∧ RL μ vs cvs := by
  intro n
  induction n with
  | zero => intro i o acc vs _ hv; simp [takeN] at hv; subst hv; exact ⟨[], by simp [loadCellsFrom], rfl⟩
  | succ n ih =>
    intro i o acc vs hq hv
    obtain ⟨e1, e2⟩ := takeN_spec _ _ _ hv
    have hlt : o < cs.length := by simp at e2; omega
    have hd : cs.drop o = cs[o] :: cs.drop (o + 1) := (List.drop_eq_getElem_cons hlt)
    obtain ⟨cv, h1, h2⟩ := run_load_cell (P := P) h hp hg (o := o) (v := cs[o]) (by simp [hlt])
    rw [hd] at hv
    simp only [takeN] at hv
    split at hv
    · rename_i ys hy
      simp at hv; subst hv
      obtain ⟨cvs, h3, h4⟩ := ih (i + 1) (o + 1) (acc.push cv) ys (by omega) hy
      refine ⟨cv :: cvs, ?_, cv, cvs, h2, h4, rfl⟩
      simp only [loadCellsFrom, Sem.run_bind, add_place, hq, h1, Result.andThen_ok, h3]
      simp
    · simp at hv

theorem run_loadCells (h : SR w0 μ σ w) {b o n : Nat} {p : Loc} {ro : Bool} {cs vs : List V} (hp : μ b = some p) (hg : σ.get b = some (.cells ro cs)) (hv : takeN n (cs.drop o) = some vs) :
    ∃ cvs, (loadCells ⟨p.blk, p.off + o, none⟩ n).run P w = .ok cvs.toArray w ∧ RL μ vs cvs := by
  obtain ⟨cvs, h1, h2⟩ := run_loadCellsFrom (P := P) h hp hg (p.off + o) n 0 o #[] vs rfl hv
  exact ⟨cvs, by simpa [loadCells] using h1, h2⟩

theorem run_loadVar (hpt : pt.Ok P) (h : SR w0 μ σ w) {t : TypeId} {b o : Nat} {v : V} (hl : loadA pt t σ (.ptr b o) = some v) {p : Loc} (hp : μ b = some p) :
    ∃ cv, (loadVar t ⟨p.blk, p.off + o, none⟩).run P w = .ok cv w ∧ R μ v cv := by
  simp only [loadA] at hl
  split at hl
  · rename_i ro cs hg
    split at hl
    · rename_i ha
      split at hl
      · rename_i n hn
        split at hl
        · rename_i l hl'
          simp at hl; subst hl
          obtain ⟨cvs, h1, h2⟩ := run_loadCells (P := P) h hp hg hl'
          exact ⟨.agg cvs.toArray, by simp [loadVar, run_agg hpt ha w, run_size hpt hn w, h1], cvs, h2, rfl⟩
        · simp at hl
      · simp at hl
    · rename_i ha
      obtain ⟨cv, h1, h2⟩ := run_load_cell (P := P) h hp hg hl
      exact ⟨cv, by simp only [loadVar, Sem.run_bind, run_agg hpt ha w, Result.andThen_ok]; simpa using h1, h2⟩
    · simp at hl
  · simp at hl

theorem loadAt_ok (hpt : pt.Ok P) (h : SR w0 μ σ w) {t : TypeId} {a v : V} {ca : Value} (ha : R μ a ca) (hl : loadA pt t σ a = some v) :
    ∃ cv, (Instr.loadAt t ca).run P w = .ok cv w ∧ R μ v cv := by
  cases a with
  | ptr b o =>
    obtain ⟨p, hp, e⟩ := ha
    subst e
    obtain ⟨cv, h1, h2⟩ := run_loadVar hpt h hl hp
    exact ⟨cv, by simp [Instr.loadAt, Instr.sureAddr, h1], h2⟩
  | _ => simp [loadA] at hl

/-! ### Stores -/

theorem run_store_cell (h : SR w0 μ σ w) {b o : Nat} {p : Loc} {cs : List V} {v : V} {cv : Value} (hp : μ b = some p) (hg : σ.get b = some (.cells false cs)) (ho : o < cs.length) (hv : R μ v cv) (h1 : v.oneCell = true) :
    (store ⟨p.blk, p.off + o, none⟩ cv).run P w = .ok () (w.setCell ⟨p.blk, p.off + o, none⟩ cv) ∧
      SR w0 μ (σ.put b (some (.cells false (cs.set o v)))) (w.setCell ⟨p.blk, p.off + o, none⟩ cv) := by
  obtain ⟨hs, hf⟩ := h.store hp hg ho hv
  obtain ⟨c0, hc, _⟩ := h.cell hp hg (o := o) (v := cs[o]) (by simp [ho])
  refine ⟨?_, hs⟩
  rw [run_store _ _ _ _ _ (by rw [R_oneCell hv]; exact h1), hc]
  simp [hf]

theorem St.put_put (σ : St) (b : Nat) (x y : Option AObj) : ∀ c, ((σ.put b x).put b y).get c = (σ.put b y).get c := by
  intro c; simp only [St.get_put]; split <;> rfl

theorem SR.congr (h : SR w0 μ σ w) {τ : St} (hn : τ.next = σ.next) (hg : ∀ c, τ.get c = σ.get c) : SR w0 μ τ w where
  below := h.below
  lt := fun b p hp => by rw [hn]; exact h.lt b p hp
  out := fun b hb => by rw [hg]; exact h.out b (by omega)
  obj := fun b p a hp ha => h.obj b p a hp (by rw [← hg]; exact ha)
  inj := fun b c p q a d hp hq ha hd => h.inj b c p q a d hp hq (by rw [← hg]; exact ha) (by rw [← hg]; exact hd)

theorem overlay_cons {α : Type} (cs : List α) (o : Nat) (v : α) (vs : List α) (ho : o < cs.length) : overlay (cs.set o v) (o + 1) vs = overlay cs o (v :: vs) := by
  unfold overlay
  have h1 : (cs.set o v).take (o + 1) = cs.take o ++ [v] := by
    rw [List.take_succ_eq_append_getElem (by simpa using ho), List.take_set_of_le (Nat.le_refl o)]
    simp
  have h2 : (cs.set o v).drop (o + 1 + vs.length) = cs.drop (o + (v :: vs).length) := by
    rw [List.drop_set_of_lt (by omega)]
    simp; congr 1; omega
  rw [h1, h2]; simp

theorem run_storeCells {b : Nat} {p : Loc} (hp : μ b = some p) (q : Nat) :
    ∀ (vs : List V) (cvs : List Value) (i o : Nat) (σ : St) (w : World) (cs : List V), SR w0 μ σ w → σ.get b = some (.cells false cs) → q + i = p.off + o → o + vs.length ≤ cs.length →
      RL μ vs cvs → allOne vs = true →
      ∃ w', (storeCells ⟨p.blk, q, none⟩ cvs i).run P w = .ok () w' ∧ SR w0 μ (σ.put b (some (.cells false (overlay cs o vs)))) w' := by
  intro vs
  induction vs with
  | nil =>
    intro cvs i o σ w cs h hg _ _ hr _
    simp only [RL] at hr; subst hr
    refine ⟨w, by simp [storeCells], h.congr rfl fun c => ?_⟩
    rw [St.get_put]; split
    · subst_vars; simp [overlay, hg]
    · rfl
  | cons v vs ih =>
    intro cvs i o σ w cs h hg hq hlen hr hone
    obtain ⟨y, ys, hy, hys, e⟩ := hr
    subst e
    simp only [allOne, Bool.and_eq_true] at hone
    have ho : o < cs.length := by simp at hlen; omega
    obtain ⟨h1, h2⟩ := run_store_cell (P := P) h hp hg ho hy hone.1
    have hg' : (σ.put b (some (.cells false (cs.set o v)))).get b = some (.cells false (cs.set o v)) := by simp [St.get_put]
    obtain ⟨w', h3, h4⟩ := ih ys (i + 1) (o + 1) _ _ (cs.set o v) h2 hg' (by omega) (by simp at hlen ⊢; omega) hys hone.2
    refine ⟨w', ?_, h4.congr rfl fun c => ?_⟩
    · simp only [storeCells, Sem.run_bind, add_place, hq, h1, Result.andThen_ok, h3]
    · rw [overlay_cons _ _ _ _ ho]
      exact (St.put_put σ b _ _ c).symm

theorem putCells_ok (h : SR w0 μ σ w) {b o : Nat} {vs : List V} {cvs : List Value} {σ' : St} {p : Loc} (hp : μ b = some p) (hr : RL μ vs cvs) (he : putCells σ b o vs = some σ') :
    ∃ w', (storeCells ⟨p.blk, p.off + o, none⟩ cvs).run P w = .ok () w' ∧ SR w0 μ σ' w' ∧ Ext μ σ μ σ' := by
  unfold putCells at he
  split at he
  · rename_i cs hg
    split at he
    · rename_i cs' hc
      split at he
      · rename_i hone
        simp at he; subst he
        obtain ⟨h1, h2⟩ := overS_spec _ _ _ _ hc
        subst h1
        obtain ⟨w', h3, h4⟩ := run_storeCells (P := P) hp (p.off + o) vs cvs 0 o σ w cs h hg rfl h2 hr hone
        exact ⟨w', h3, h4, Ext.put μ σ _ hp⟩
      · simp at he
    · simp at he
  · simp at he

theorem storeAt_ok (hpt : pt.Ok P) (h : SR w0 μ σ w) {t : TypeId} {a v : V} {ca cv : Value} {σ' : St} (ha : R μ a ca) (hv : R μ v cv) (he : storeA pt t σ a v = some σ') :
    ∃ w', (Instr.storeAt t ca cv).run P w = .ok () w' ∧ SR w0 μ σ' w' ∧ Ext μ σ μ σ' := by
  cases a with
  | ptr b o =>
    obtain ⟨p, hp, e⟩ := ha
    subst e
    simp only [storeA] at he
    split at he
    · rename_i n hn
      have key : ∀ vs, RL μ vs cv.cells.toList → vs.length = n → putCells σ b o vs = some σ' →
          ∃ w', (Instr.storeAt t (.pointer (some ⟨p.blk, p.off + o, none⟩)) cv).run P w = .ok () w' ∧ SR w0 μ σ' w' ∧ Ext μ σ μ σ' := by
        intro vs hr hlen hput
        obtain ⟨w', h1, h2, h3⟩ := putCells_ok (P := P) h hp hr hput
        have hsz : cv.cells.size = n := by
          have := RL_length hr; simp at this; omega
        exact ⟨w', by simp [Instr.storeAt, Instr.sureAddr, storeVar, run_size hpt hn w, hsz, h1], h2, h3⟩
      split at he
      · rename_i vs
        split at he
        · rename_i hb
          simp at hb
          exact key vs (R_cells hv) hb he
        · simp at he
      · rename_i hna
        split at he
        · rename_i hb
          simp at hb
          unfold putCell at he
          split at he
          · rename_i cs hg
            split at he
            · rename_i x hx
              split at he
              · rename_i c cs' hone hs
                simp at he; subst he
                rw [setS_eq] at hs
                rw [← hs]
                have ho : o < cs.length := by
                  rcases Nat.lt_or_ge o cs.length with hh | hh
                  · exact hh
                  · rw [List.getElem?_eq_none hh] at hx; simp at hx
                obtain ⟨h1, h2⟩ := run_store_cell (P := P) h hp hg ho hv hone
                have hcells : cv.cells = #[cv] := by
                  have := R_oneCell hv
                  rw [hone] at this
                  cases cv <;> first | rfl | simp [Value.oneCell'] at this
                refine ⟨_, ?_, h2, Ext.put μ σ _ hp⟩
                simp [Instr.storeAt, Instr.sureAddr, storeVar, run_size hpt hn w, hcells, ← hb, storeCells, add_place, h1]
              · simp at he
            · simp at he
          · simp at he
        · simp at he
    · simp at he
  | _ => simp [storeA] at he
end
end Go.AI

/- Soundness, part 2: numbers, strings, comparisons, conversions between numbers. -/
namespace Go.AI
variable {P : Program} {pt : PT}

@[simp] theorem wrapA_eq (k : IntKind) (n : Int) : wrapA k n = .int k (k.wrap n) := by simp [wrapA]
@[simp] theorem zeq_eq (x y : Int) : zeq x y = decide (x = y) := by
  unfold zeq
  split
  · rw [Bool.eq_iff_iff]; simp; omega
  · rw [Bool.eq_iff_iff]; simp
  · rename_i h1 h2
    cases x <;> cases y <;> first
      | exact absurd rfl (h1 _ _ rfl)
      | exact absurd rfl (h2 _ _ rfl)
      | simp
@[simp] theorem zle_eq (x y : Int) : zle x y = decide (x ≤ y) := by
  unfold zle
  split <;> rw [Bool.eq_iff_iff] <;> simp <;> omega

theorem eqBytes_iff : ∀ (x y : List UInt8), eqBytes x y = (x == y)
  | [], [] => rfl
  | [], _ :: _ => rfl
  | _ :: _, [] => rfl
  | a :: x, b :: y => by
    simp only [eqBytes]
    have ih := eqBytes_iff x y
    by_cases h : a.toNat = b.toNat
    · have hb : Nat.beq a.toNat b.toNat = true := by simp [h]
      have e : a = b := UInt8.toNat_inj.1 h
      subst e
      simp [ih]
    · have hb : Nat.beq a.toNat b.toNat = false := by cases hh : Nat.beq a.toNat b.toNat <;> simp_all
      have e : a ≠ b := fun e => h (by rw [e])
      simp [hb, e]

theorem ltBytes_eq : ∀ (x y : List UInt8), ltBytes x y = Op.bytesLess x y
  | _, [] => by simp [ltBytes, Op.bytesLess]
  | [], _ :: _ => rfl
  | a :: x, b :: y => by
    simp only [ltBytes, Op.bytesLess]
    have ih := ltBytes_eq x y
    by_cases h : a.toNat = b.toNat
    · have e : a = b := UInt8.toNat_inj.1 h
      subst e
      have : ¬ a < a := by simp
      simp [ih, this]
    · have hb : Nat.beq a.toNat b.toNat = false := by cases hh : Nat.beq a.toNat b.toNat <;> simp_all
      have e : a ≠ b := fun e => h (by rw [e])
      have e2 : (a == b) = false := by simp [e]
      rw [hb, e2, Bool.eq_iff_iff]
      simp [UInt8.lt_iff_toNat_lt, Nat.blt_eq]

theorem bytesLess_total : ∀ (x y : List UInt8), (Op.bytesLess x y || x == y) = !Op.bytesLess y x
  | [], [] => rfl
  | [], _ :: _ => rfl
  | _ :: _, [] => rfl
  | a :: x, b :: y => by
    simp only [Op.bytesLess]
    have ih := bytesLess_total x y
    rcases Nat.lt_trichotomy a.toNat b.toNat with h | h | h
    · have h1 : a < b := UInt8.lt_iff_toNat_lt.2 h
      have h2 : ¬ b < a := by simp [UInt8.lt_iff_toNat_lt]; omega
      have h3 : b ≠ a := by rintro rfl; omega
      simp [h1, h2, h3]
    · have e : a = b := UInt8.toNat_inj.1 h
      subst e
      have : ¬ a < a := by simp
      simp only [this, decide_false, Bool.false_or, beq_self_eq_true, Bool.true_and]
      rw [← ih]; simp
    · have h1 : b < a := UInt8.lt_iff_toNat_lt.2 h
      have h2 : ¬ a < b := by simp [UInt8.lt_iff_toNat_lt]; omega
      have h3 : a ≠ b := by rintro rfl; omega
      simp [h1, h2, h3]

theorem sum_small (x y : ByteArray) (h : x.data.toList.length + y.data.toList.length ≤ 1000000000) : ¬ ((x.size + y.size : Nat) : Int) > IntKind.i64.max := by
  have h1 : x.size = x.data.toList.length := rfl
  have h2 : y.size = y.data.toList.length := rfl
  unfold IntKind.max
  simp only [IntKind.signed, IntKind.bits, if_true]
  omega

theorem strOp_ok {op : BinOp} {x y : ByteArray} {v : V} (h : strOp op x.data.toList y.data.toList = some v) (μ : Mu) (w : World) :
    ∃ cv, (Op.stringOp op x y).run P w = .ok cv w ∧ R μ v cv := by
  unfold strOp at h
  unfold Op.stringOp
  simp only [ByteArray.toList_eq, bytesLess_total, eqBytes_iff, ltBytes_eq] at h ⊢
  cases op <;> first
    | (have h := Option.some.inj h; subst h; exact ⟨_, rfl, rfl⟩)
    | (cases h; done)
    | skip
  · simp only at h
    split at h
    · rename_i hl
      have h := Option.some.inj h; subst h
      refine ⟨.string (x ++ y), ?_, x ++ y, rfl, by simp⟩
      simp only
      rw [if_neg (sum_small x y (Nat.le_of_ble_eq_true hl))]; rfl
    · cases h
  · have h := Option.some.inj h; subst h
    exact ⟨_, rfl, by simp [R]⟩

theorem intOp_ok {op : BinOp} {k : IntKind} {a b : Int} {v : V} (h : intOp op k a b = some v) (t : TypeId) (μ : Mu) (w : World) :
    ∃ cv, (binOp op t (.int k a) (.int k b)).run P w = .ok cv w ∧ R μ v cv := by
  unfold intOp bitsA at h
  simp only [zeq_eq, zle_eq, wrapA_eq, zf_eq] at h
  cases op <;> simp only at h <;> first
    | (have h := Option.some.inj h; subst h; exact ⟨_, by simp only [binOp, ne_eq, not_true_eq_false, if_false]; rfl, rfl⟩)
    | (cases h; done)
    | skip
  · split at h
    · cases h
    · rename_i h0
      have h := Option.some.inj h; subst h
      have h0 : b ≠ 0 := by simpa using h0
      exact ⟨_, by simp only [binOp, Op.intDiv, ne_eq, not_true_eq_false, if_false]; rw [if_neg h0]; rfl, rfl⟩
  · split at h
    · cases h
    · rename_i h0
      have h := Option.some.inj h; subst h
      have h0 : b ≠ 0 := by simpa using h0
      exact ⟨_, by simp only [binOp, Op.intDiv, ne_eq, not_true_eq_false, if_false]; rw [if_neg h0]; rfl, rfl⟩
  · have h := Option.some.inj h; subst h
    refine ⟨.bool (decide (a < b)), by simp only [binOp, ne_eq, not_true_eq_false, if_false]; rfl, ?_⟩
    simp only [R, Value.bool.injEq]
    rw [Bool.eq_iff_iff]; simp
  · have h := Option.some.inj h; subst h
    refine ⟨.bool (decide (a > b)), by simp only [binOp, ne_eq, not_true_eq_false, if_false]; rfl, ?_⟩
    simp only [R, Value.bool.injEq]
    rw [Bool.eq_iff_iff]; simp

theorem shiftOp_ok {op : BinOp} {k k' : IntKind} {a b : Int} {v : V} (h : shiftOp op k a b = some v) (μ : Mu) (w : World) (t : TypeId) :
    ∃ cv, (binOp op t (.int k a) (.int k' b)).run P w = .ok cv w ∧ R μ v cv := by
  unfold shiftOp at h
  split at h
  · simp at h
  · rename_i n
    have hb : ¬ (Int.ofNat n) < 0 := by simp
    simp only [zf_eq, wrapA_eq] at h
    split at h
    · have h := Option.some.inj h; subst h
      exact ⟨_, by simp only [binOp, Op.shift]; rw [if_neg hb]; rfl, rfl⟩
    · have h := Option.some.inj h; subst h
      exact ⟨_, by simp only [binOp, Op.shift]; rw [if_neg hb]; rfl, rfl⟩
    · cases h

theorem unA_ok {op : UnOp} {x v : V} (h : unA op x = some v) {μ : Mu} {cx : Value} (hx : R μ x cx) (w : World) :
    ∃ cv, (Op.unary op cx).run P w = .ok cv w ∧ R μ v cv := by
  unfold unA bitsA at h
  simp only [wrapA_eq] at h
  split at h
  · have h := Option.some.inj h; subst h
    simp only [R] at hx; subst hx
    exact ⟨_, rfl, rfl⟩
  · rename_i k n
    have h := Option.some.inj h; subst h
    simp only [R] at hx; subst hx
    refine ⟨_, rfl, ?_⟩
    simp only [R]
    cases hs : k.signed <;> simp
  · have h := Option.some.inj h; subst h
    simp only [R] at hx; subst hx
    exact ⟨_, rfl, rfl⟩
  · cases h

theorem natOf_ok {x : V} {n : Nat} (h : natOf x = some n) {μ : Mu} {cx : Value} (hx : R μ x cx) : ∃ k, cx = .int k (Int.ofNat n) := by
  unfold natOf at h
  split at h
  · simp at h; subst h
    simp only [R] at hx
    exact ⟨_, hx⟩
  · simp at h

end Go.AI

/- Soundness, part 3: equality, binary operations. -/
namespace Go.AI
variable {P : Program} {pt : PT}

theorem str_beq (a b : ByteArray) : (a == b) = eqBytes a.data.toList b.data.toList := by
  rw [beq_toListBytes, ByteArray.toList_eq, ByteArray.toList_eq, eqBytes_iff]

theorem eqA_ok (hpt : pt.Ok P) {t : TypeId} {x y : V} {r : Bool} (h : eqA pt t x y = some r) {μ : Mu} {cx cy : Value} (hx : R μ x cx) (hy : R μ y cy) (d : Nat) (w : World) :
    (Op.equalIn (d + 1) t cx cy).run P w = .ok r w := by
  unfold eqA at h
  split at h
  case h_1 a b =>
    split at h
    · rename_i hd
      simp only [R] at hx hy; subst hx; subst hy
      have h := Option.some.inj h; subst h
      simp only [Op.equalIn, Sem.run_bind, run_und hpt hd w, Result.andThen_ok]
      cases a <;> cases b <;> rfl
    · cases h
  case h_2 k a k' b =>
    split at h
    · rename_i hd
      simp only [R] at hx hy; subst hx; subst hy
      split at h
      · rename_i hk
        have h := Option.some.inj h; subst h
        simp only [Op.equalIn, Sem.run_bind, run_und hpt hd w, Result.andThen_ok, hk, if_true, zeq_eq]
        rfl
      · cases h
    · cases h
  case h_3 a b =>
    split at h
    · rename_i hd
      obtain ⟨ba, e1, e2⟩ := hx
      obtain ⟨bb, e3, e4⟩ := hy
      subst e1; subst e2; subst e3; subst e4
      have h := Option.some.inj h; subst h
      simp only [Op.equalIn, Sem.run_bind, run_und hpt hd w, Result.andThen_ok, str_beq]
      rfl
    · cases h
  all_goals first
    | (cases h; done)
    | (split at h <;> first
        | (cases h; done)
        | (rename_i hd
           have h := Option.some.inj h; subst h
           first
            | (simp only [R] at hx hy; subst hx; subst hy
               simp only [Op.equalIn, Sem.run_bind, run_und hpt hd w, Result.andThen_ok]; rfl)
            | (simp only [R] at hx
               obtain ⟨p, hp, e⟩ := hy
               subst hx; subst e
               simp only [Op.equalIn, Sem.run_bind, run_und hpt hd w, Result.andThen_ok]; rfl)
            | (simp only [R] at hy
               obtain ⟨p, hp, e⟩ := hx
               subst hy; subst e
               simp only [Op.equalIn, Sem.run_bind, run_und hpt hd w, Result.andThen_ok]; rfl)
            | (simp only [R] at hx
               obtain ⟨ca, cc, e, hr⟩ := hy
               subst hx; subst e
               simp only [Op.equalIn, Sem.run_bind, run_und hpt hd w, Result.andThen_ok]; rfl)
            | (simp only [R] at hy
               obtain ⟨ca, cc, e, hr⟩ := hx
               subst hy; subst e
               simp only [Op.equalIn, Sem.run_bind, run_und hpt hd w, Result.andThen_ok]; rfl)
            | (simp only [R] at hx
               obtain ⟨g, a, c, _, _, _, e⟩ := hy
               subst hx; subst e
               simp only [Op.equalIn, Sem.run_bind, run_und hpt hd w, Result.andThen_ok]; rfl)
            | (simp only [R] at hy
               obtain ⟨g, a, c, _, _, _, e⟩ := hx
               subst hy; subst e
               simp only [Op.equalIn, Sem.run_bind, run_und hpt hd w, Result.andThen_ok]; rfl)))

theorem plain_not_agg (hpt : pt.Ok P) {t : TypeId} {d : TypeDesc} (hd : pt.und t = some d) (hp : plainDesc d = true) (w : World)
    (cs : Array Value) (o : Nat) {v : Value} (hv : cs[o]? = some v) : (part t cs o).run P w = .ok v w := by
  have ha : (isAgg t).run P w = .ok false w := by
    simp only [isAgg, Sem.run_bind, run_und hpt hd w, Result.andThen_ok]
    cases d <;> first | rfl | simp [plainDesc] at hp
  simp only [part, Sem.run_bind, ha, Result.andThen_ok]
  simp [hv]

theorem eqFields_ok (hpt : pt.Ok P) {μ : Mu} (d : Nat) (w : World) {xs ys : List V} {cx cy : List Value} (hx : RL μ xs cx) (hy : RL μ ys cy) :
    ∀ (fs : List Field) (r : Bool), plainFields pt fs = true → eqFields pt fs xs ys = some r → (Op.eqFields (d + 1) cx.toArray cy.toArray fs).run P w = .ok r w := by
  intro fs
  induction fs with
  | nil => intro r _ h; simp [eqFields] at h; subst h; simp [Op.eqFields]
  | cons f fs ih =>
    intro r hp h
    simp only [plainFields] at hp
    split at hp
    · rename_i dd hd
      simp only [Bool.and_eq_true] at hp
      obtain ⟨⟨h1, h2⟩, h3⟩ := hp
      have hn : f.name ≠ "_" := by simpa using h2
      simp only [eqFields] at h
      split at h
      · rename_i x y hxx hyy
        obtain ⟨vx, hvx, hrx⟩ := RL_get hx _ _ hxx
        obtain ⟨vy, hvy, hry⟩ := RL_get hy _ _ hyy
        have p1 := plain_not_agg (P := P) hpt hd h1 w cx.toArray f.offset (v := vx) (by simpa using hvx)
        have p2 := plain_not_agg (P := P) hpt hd h1 w cy.toArray f.offset (v := vy) (by simpa using hvy)
        split at h
        · rename_i he
          have e := eqA_ok hpt he hrx hry d w
          simp only [Op.eqFields, hn, ne_eq, not_false_eq_true, if_true, Sem.run_bind, p1, p2, e, Result.andThen_ok]
          simpa using ih r h3 h
        · rename_i he
          have h := Option.some.inj h; subst h
          have e := eqA_ok hpt he hrx hry d w
          simp only [Op.eqFields, hn, ne_eq, not_false_eq_true, if_true, Sem.run_bind, p1, p2, e, Result.andThen_ok]
          simp
        · cases h
      · cases h
    · cases hp

theorem guard_plain (hpt : pt.Ok P) {d : Nat} : ∀ (fs : List Field), plainFields pt fs = true → (fs.any fun f => f.name != "_" && P.eqGuardType (d + 1) f.type) = false := by
  intro fs
  induction fs with
  | nil => intro _; rfl
  | cons f fs ih =>
    intro hp
    simp only [plainFields] at hp
    split at hp
    · rename_i dd hd
      simp only [Bool.and_eq_true] at hp
      obtain ⟨⟨h1, _⟩, h3⟩ := hp
      have hu := und_ok hpt hd
      have : P.eqGuardType (d + 1) f.type = false := by
        simp only [Program.eqGuardType, hu]
        cases dd <;> first | rfl | simp [plainDesc] at h1
      simp [this, ih h3]
    · cases hp

theorem depth_two (P : Program) : ∃ d, P.depth = d + 2 := ⟨2 * (P.types.size + Made.depth), rfl⟩

theorem guardType_plain (hpt : pt.Ok P) {t : TypeId} {fs : Array Field} (hu : pt.und t = some (.struct fs)) (hp : plainFields pt fs.toList = true) : P.eqGuardType P.depth t = false := by
  obtain ⟨d, hd⟩ := depth_two P
  rw [hd]
  simp only [Program.eqGuardType, und_ok hpt hu]
  rw [← Array.any_toList]
  exact guard_plain hpt _ hp

theorem structEq_ok (hpt : pt.Ok P) {t : TypeId} {x y : V} {r : Bool} (h : structEq pt t x y = some r) {μ : Mu} {cx cy : Value} (hx : R μ x cx) (hy : R μ y cy) (w : World) :
    (Op.equal t cx cy).run P w = .ok r w ∧ ∀ op a b, (op = .eql ∨ op = .neq → x ≠ .niliface ∨ y ≠ .niliface) → (eqGuard op t a b cx cy).run P w = .ok () w := by
  unfold structEq at h
  split at h
  · rename_i xs ys
    split at h
    · rename_i fs hu
      split at h
      · rename_i he hp
        obtain ⟨cxs, h1, e1⟩ := hx
        obtain ⟨cys, h2, e2⟩ := hy
        subst e1; subst e2
        have hf : P.fieldsOf t = fs := by simp [Program.fieldsOf, und_ok hpt hu]
        refine ⟨?_, fun op a b _ => run_eqGuard_agg w op t a b _ _ (guardType_plain hpt hu hp)⟩
        unfold Op.equal Op.maxDepth
        rw [run_equalIn_struct w 9999 t _ _ (by rw [hf]; exact und_ok hpt hu) (hpt.eqs t he), hf]
        exact eqFields_ok hpt 9998 w h1 h2 _ r hp h
      · cases h
    · cases h
  · rename_i hna
    refine ⟨eqA_ok hpt h hx hy 9999 w, fun op a b hne => ?_⟩
    unfold eqGuard
    by_cases ho : op = .eql ∨ op = .neq
    · have hb : (!(match op with | .eql | .neq => true | _ => false)) = false := by rcases ho with rfl | rfl <;> rfl
      have hne := hne ho
      unfold eqA at h
      split at h
      all_goals first
        | (cases h; done)
        | (simp only [R] at hx hy; subst hx; subst hy; rcases ho with rfl | rfl <;> rfl)
        | (obtain ⟨ba, e1, e2⟩ := hx; obtain ⟨bb, e3, e4⟩ := hy; subst e1; subst e3; rcases ho with rfl | rfl <;> rfl)
        | (simp only [R] at hx; obtain ⟨p, hp, e⟩ := hy; subst hx; subst e; rcases ho with rfl | rfl <;> rfl)
        | (simp only [R] at hy; obtain ⟨p, hp, e⟩ := hx; subst hy; subst e; rcases ho with rfl | rfl <;> rfl)
        | (simp only [R] at hx; obtain ⟨ca, cc, e, hr⟩ := hy; subst hx; subst e; rcases ho with rfl | rfl <;> rfl)
        | (simp only [R] at hy; obtain ⟨ca, cc, e, hr⟩ := hx; subst hy; subst e; rcases ho with rfl | rfl <;> rfl)
        | (simp only [R] at hx; obtain ⟨g, a, c, _, _, _, e⟩ := hy; subst hx; subst e; rcases ho with rfl | rfl <;> rfl)
        | (simp only [R] at hy; obtain ⟨g, a, c, _, _, _, e⟩ := hx; subst hy; subst e; rcases ho with rfl | rfl <;> rfl)
    · cases op <;> first | rfl | simp at ho

theorem binA_ok (hpt : pt.Ok P) {op : BinOp} {t : TypeId} {x y v : V} (h : binA pt op t x y = some v) {μ : Mu} {cx cy : Value} (hx : R μ x cx) (hy : R μ y cy) (a b : Operand) (w : World) :
    ∃ cv, (do eqGuard op t a b cx cy; binOp op t cx cy : Sem Value).run P w = .ok cv w ∧ R μ v cv := by
  unfold binA at h
  split at h
  · rename_i k n k' m
    simp only [R] at hx hy; subst hx; subst hy
    have hg : (eqGuard op t a b (.int k n) (.int k' m)).run P w = .ok () w := by
      unfold eqGuard; cases op <;> rfl
    simp only [Sem.run_bind, hg, Result.andThen_ok]
    split at h
    · exact shiftOp_ok h μ w t
    · exact shiftOp_ok h μ w t
    · split at h
      · rename_i hk
        subst hk
        exact intOp_ok h t μ w
      · cases h
  · rename_i sa sb
    obtain ⟨ba, e1, e2⟩ := hx
    obtain ⟨bb, e3, e4⟩ := hy
    subst e1; subst e2; subst e3; subst e4
    have hg : (eqGuard op t a b (.string ba) (.string bb)).run P w = .ok () w := by
      unfold eqGuard; cases op <;> rfl
    obtain ⟨cv, h1, h2⟩ := strOp_ok h μ w
    refine ⟨cv, ?_, h2⟩
    simp only [Sem.run_bind, hg, Result.andThen_ok]
    rw [← h1]
    cases op <;> rfl
  · rename_i hni hns
    have key : ∀ (op : BinOp) (r : Bool), (op = .eql ∨ op = .neq) → structEq pt t x y = some r →
        (do eqGuard op t a b cx cy; binOp op t cx cy : Sem Value).run P w = .ok (.bool (if op = .eql then r else !r)) w := by
      intro op r ho hs
      obtain ⟨h1, h2⟩ := structEq_ok hpt hs hx hy w
      have hg := h2 op a b (fun _ => by
        cases x <;> first
          | (left; simp; done)
          | (cases y <;> first | (right; simp; done) | (exfalso; simp [structEq, eqA] at hs)))
      simp only [Sem.run_bind, hg, Result.andThen_ok]
      have hb : (binOp .eql t cx cy).run P w = ((Op.equal t cx cy).run P w).andThen (fun b w' => .ok (.bool b) w') ∧
          (binOp .neq t cx cy).run P w = ((Op.equal t cx cy).run P w).andThen (fun b w' => .ok (.bool (!b)) w') := by
        unfold structEq at hs
        split at hs
        · obtain ⟨cxs, _, e1⟩ := hx
          obtain ⟨cys, _, e2⟩ := hy
          subst e1; subst e2
          exact ⟨by simp [binOp], by simp [binOp]⟩
        · unfold eqA at hs
          split at hs
          all_goals first
            | (cases hs; done)
            | (exact absurd rfl (hni _ _ _ _ rfl))
            | (exact absurd rfl (hns _ _ rfl))
            | (simp only [R] at hx hy; subst hx; subst hy; exact ⟨by simp [binOp], by simp [binOp]⟩)
            | (simp only [R] at hx; obtain ⟨p, hp, e⟩ := hy; subst hx; subst e; exact ⟨by simp [binOp], by simp [binOp]⟩)
            | (simp only [R] at hy; obtain ⟨p, hp, e⟩ := hx; subst hy; subst e; exact ⟨by simp [binOp], by simp [binOp]⟩)
            | (simp only [R] at hx; obtain ⟨ca, cc, e, hr⟩ := hy; subst hx; subst e; exact ⟨by simp [binOp], by simp [binOp]⟩)
            | (simp only [R] at hy; obtain ⟨ca, cc, e, hr⟩ := hx; subst hy; subst e; exact ⟨by simp [binOp], by simp [binOp]⟩)
            | (simp only [R] at hx; obtain ⟨g, a, c, _, _, _, e⟩ := hy; subst hx; subst e; exact ⟨by simp [binOp], by simp [binOp]⟩)
            | (simp only [R] at hy; obtain ⟨g, a, c, _, _, _, e⟩ := hx; subst hy; subst e; exact ⟨by simp [binOp], by simp [binOp]⟩)
      rcases ho with rfl | rfl
      · rw [hb.1, h1]; rfl
      · rw [hb.2, h1]; rfl
    split at h
    · split at h
      · rename_i r hs
        have h := Option.some.inj h; subst h
        exact ⟨_, key .eql r (.inl rfl) hs, rfl⟩
      · cases h
    · split at h
      · rename_i r hs
        have h := Option.some.inj h; subst h
        exact ⟨_, key .neq r (.inr rfl) hs, rfl⟩
      · cases h
    · cases h

end Go.AI

/- Soundness, part 4: slices, aggregates, what is made. -/
namespace Go.AI
variable {P : Program} {pt : PT} {w0 : W0} {μ : Mu} {σ : St} {w : World}

theorem elem_ok {t e : TypeId} {n : Nat} (h : pt.elem t = some (e, n)) : pt.und t = some (.slice e) ∧ pt.size e = some n := by
  unfold PT.elem at h
  split at h
  · rename_i e' he
    split at h
    · rename_i n' hn
      simp at h; obtain ⟨rfl, rfl⟩ := h
      exact ⟨he, hn⟩
    · cases h
  · cases h

theorem lenA_ok {x : V} {n : Nat} (h : lenA x = some n) {cx : Value} (hx : R μ x cx) (w : World) : (Builtin.lenOf cx).run P w = .ok n w := by
  unfold lenA at h
  split at h <;> first | (cases h; done) | (have h := Option.some.inj h; subst h)
  · simp only [R] at hx; subst hx; rfl
  · obtain ⟨ca, cc, e, _⟩ := hx; subst e; rfl
  · obtain ⟨ba, e, e2⟩ := hx; subst e; subst e2; rfl

/-- What is read of a slice, or a string. -/
theorem firstCells_ok (h : SR w0 μ σ w) {x : V} {sz n : Nat} {vs : List V} {cx : Value} (hx : R μ x cx) (hr : readSlice σ sz n x = some vs) (hn : ∀ l, lenA x = some l → n ≤ l) :
    ∃ cvs : List Value, (Builtin.firstCells sz n cx).run P w = .ok cvs.toArray w ∧ RL μ vs cvs := by
  unfold readSlice at hr
  split at hr
  · simp only [R] at hx; subst hx
    split at hr
    · have hr := Option.some.inj hr; subst hr
      exact ⟨[], rfl, rfl⟩
    · cases hr
  · rename_i b o len cap s
    obtain ⟨ca, cc, e, hl, _, ha, _⟩ := hx
    subst e
    split at hr
    · have hr := Option.some.inj hr; subst hr
      exact ⟨[], by simp [Builtin.firstCells, loadCells, loadCellsFrom], rfl⟩
    · rename_i m
      split at hr
      · rename_i ro cs hg
        have := hn len rfl
        obtain ⟨p, hp, e2, _⟩ := ha (by omega)
        subst e2
        obtain ⟨cvs, h1, h2⟩ := run_loadCells (P := P) h hp hg hr
        exact ⟨cvs, h1, h2⟩
      · cases hr
  · rename_i s
    obtain ⟨ba, e, e2⟩ := hx
    subst e; subst e2
    split at hr
    · rename_i l _ hl
      have hr := Option.some.inj hr; subst hr
      obtain ⟨e3, _⟩ := takeN_spec _ _ _ hl
      refine ⟨(l.map fun c => .int .u8 (Int.ofNat c.toNat)), ?_, ?_⟩
      · simp only [Builtin.firstCells, Sem.run_pure]
        congr 1
        apply Array.toList_inj.1
        simp [ByteArray.extract, ByteArray.copySlice, e3]
      · refine RL_of_get (by simp) fun i x hx => ?_
        simp at hx ⊢
        obtain ⟨a, h1, h2⟩ := hx
        exact ⟨_, ⟨a, h1, rfl⟩, by subst h2; rfl⟩
    · cases hr
  · cases hr

theorem readSlice_length {sz n : Nat} {x : V} {vs : List V} (hr : readSlice σ sz n x = some vs) : vs.length = n * sz := by
  unfold readSlice at hr
  split at hr
  · split at hr
    · cases hr; simp
    · cases hr
  · split at hr
    · cases hr; simp
    · split at hr
      · obtain ⟨e, h⟩ := takeN_spec _ _ _ hr
        subst e
        simp only [List.length_drop] at h
        simp only [List.length_take, List.length_drop]
        omega
      · cases hr
  · split at hr
    · rename_i l hb hl
      cases hr
      have hb : sz = 1 := by simpa using hb
      obtain ⟨e, h⟩ := takeN_spec _ _ _ hl
      subst e; subst hb
      simp; omega
    · cases hr
  · cases hr

/-! ### Zero cells -/

theorem times_get (zs : List V) : ∀ (n i : Nat), i < n * zs.length → (times zs n)[i]? = zs[i % zs.length]?
  | 0, i, h => by simp at h
  | n + 1, i, h => by
    simp only [times]
    by_cases hi : i < zs.length
    · rw [List.getElem?_append_left hi, Nat.mod_eq_of_lt hi]
    · rw [List.getElem?_append_right (by omega), times_get zs n (i - zs.length) (by rw [Nat.succ_mul] at h; omega)]
      congr 1
      rw [Nat.mod_eq_sub_mod (Nat.not_lt.1 hi)]

theorem times_length (zs : List V) : ∀ n, (times zs n).length = n * zs.length
  | 0 => by simp [times]
  | n + 1 => by simp [times, times_length zs n, Nat.succ_mul, Nat.add_comm]

theorem RL_times {zs : List V} {z : Array Value} (hz : RL μ zs z.toList) (n m : Nat) (hm : m = n * z.size) :
    RL μ (times zs n) ((Array.range m).map fun i => z[i % z.size]!).toList := by
  have hlen : z.size = zs.length := by have := RL_length hz; simpa using this
  refine RL_of_get (by simp [times_length, hm, hlen]) fun i x hx => ?_
  have hi : i < n * zs.length := by
    rcases Nat.lt_or_ge i (n * zs.length) with hh | hh
    · exact hh
    · rw [List.getElem?_eq_none (by rw [times_length]; exact hh)] at hx; simp at hx
  rw [times_get zs n i hi] at hx
  obtain ⟨y, hy, hr⟩ := RL_get hz _ _ hx
  refine ⟨y, ?_, hr⟩
  have hpos : 0 < z.size := by
    rw [hlen]
    rcases Nat.eq_zero_or_pos zs.length with h0 | h0
    · rw [h0] at hi; simp at hi
    · exact h0
  have hk : i % z.size < z.size := Nat.mod_lt _ hpos
  rw [← hlen] at hy
  simp at hy
  have : z[i % z.size]! = y := by
    rw [getElem!_pos z _ hk]
    rw [Array.getElem?_eq_getElem hk] at hy
    exact Option.some.inj hy
  simp only [Array.getElem?_toList, Array.getElem?_map]
  rw [Array.getElem?_range, if_pos (by rw [hm, hlen]; exact hi)]
  simp [this]

theorem zerosA_ok (hpt : pt.Ok P) {e : TypeId} {n : Nat} {zs : List V} (h : zerosA pt e n = some zs) (w : World) :
    ∃ (z : Value) (s : Nat), (zeroValue e).run P w = .ok z w ∧ pt.size e = some s ∧ z.cells.size = s ∧
      ∀ m, m = n * s → RL μ zs ((Array.range m).map fun i => z.cells[i % z.cells.size]!).toList := by
  unfold zerosA at h
  split at h
  · rename_i z hz
    split at h
    · rename_i s hs
      split at h
      · rename_i hb
        have hb : z.cells.length = s := by simpa using hb
        have h := Option.some.inj h; subst h
        obtain ⟨v, h1, h2⟩ := run_zero hpt hz w
        have hc := R_cells (h2 μ)
        have hl : v.cells.size = s := by have := RL_length hc; simp at this; omega
        exact ⟨v, s, h1, hs, hl, fun m hm => RL_times hc n m (by rw [hm, hl])⟩
      · cases h
    · cases h
  · cases h

/-! ### Aggregates out of parts -/

theorem foldl_sets (off : Nat) : ∀ (l : List Value) (k : Nat) (cells : Array Value) (i : Nat),
    ((l.zipIdx k).foldl (fun cs (x : Value × Nat) => cs.setIfInBounds (off + x.2) x.1) cells).size = cells.size ∧
    (i < cells.size → ((l.zipIdx k).foldl (fun cs (x : Value × Nat) => cs.setIfInBounds (off + x.2) x.1) cells)[i]? =
      if off + k ≤ i ∧ i < off + k + l.length then l[i - (off + k)]? else cells[i]?)
  | [], k, cells, i => by
    refine ⟨rfl, fun _ => ?_⟩
    rw [if_neg (by simp)]
    rfl
  | x :: l, k, cells, i => by
    obtain ⟨h1, h2⟩ := foldl_sets off l (k + 1) (cells.setIfInBounds (off + k) x) i
    simp only [List.zipIdx_cons, List.foldl_cons]
    refine ⟨by rw [h1]; simp, fun hi => ?_⟩
    rw [h2 (by simpa using hi)]
    by_cases hc : off + (k + 1) ≤ i ∧ i < off + (k + 1) + l.length
    · rw [if_pos hc, if_pos (by simp; omega)]
      have : i - (off + k) = (i - (off + (k + 1))) + 1 := by omega
      rw [this]; simp
    · rw [if_neg hc]
      by_cases he : i = off + k
      · subst he
        rw [if_pos (by simp)]
        simp [hi]
      · rw [Array.getElem?_setIfInBounds_ne (by omega), if_neg (by simp; omega)]

theorem overlay_get {α : Type} {cs vs : List α} {o : Nat} (h : o + vs.length ≤ cs.length) (i : Nat) :
    (overlay cs o vs)[i]? = if o ≤ i ∧ i < o + vs.length then vs[i - o]? else cs[i]? := by
  unfold overlay
  by_cases h1 : i < o
  · rw [List.getElem?_append_left (by simp; omega), if_neg (by omega)]
    simp [h1]
  · have hl : (cs.take o).length = o := by simp; omega
    rw [List.getElem?_append_right (by omega), hl]
    by_cases h2 : i < o + vs.length
    · rw [List.getElem?_append_left (by omega), if_pos (by omega)]
    · rw [List.getElem?_append_right (by omega), if_neg (by omega)]
      simp only [List.getElem?_drop]
      congr 1; omega

theorem RL_overlay {cells vs : List V} {cc : Array Value} {cv : Array Value} {off : Nat} (hc : RL μ cells cc.toList) (hv : RL μ vs cv.toList) (h : off + vs.length ≤ cells.length) :
    RL μ (overlay cells off vs) (cv.zipIdx.foldl (fun cs (x : Value × Nat) => cs.setIfInBounds (off + x.2) x.1) cc).toList := by
  have hlc : cc.size = cells.length := by have := RL_length hc; simpa using this
  have hlv : cv.size = vs.length := by have := RL_length hv; simpa using this
  rw [← Array.foldl_toList]
  have hz : cv.zipIdx.toList = cv.toList.zipIdx 0 := by simp
  rw [hz]
  refine RL_of_get ?_ fun i x hx => ?_
  · have := (foldl_sets off cv.toList 0 cc 0).1
    simp only [Array.length_toList]
    rw [this, overlay_length h, hlc]
  · rw [overlay_get h] at hx
    have hi : i < cc.size := by
      rw [hlc]
      by_cases hh : off ≤ i ∧ i < off + vs.length
      · omega
      · rw [if_neg hh] at hx
        rcases Nat.lt_or_ge i cells.length with h1 | h1
        · exact h1
        · rw [List.getElem?_eq_none h1] at hx; simp at hx
    simp only [Array.getElem?_toList]
    rw [(foldl_sets off cv.toList 0 cc i).2 hi]
    simp only [Nat.add_zero, Array.length_toList]
    by_cases hh : off ≤ i ∧ i < off + vs.length
    · rw [if_pos hh] at hx
      rw [if_pos (by omega)]
      exact RL_get hv _ _ hx
    · rw [if_neg hh] at hx
      rw [if_neg (by omega)]
      simpa using RL_get hc _ _ hx

/-- Parts of an aggregate, on both sides. -/
def RParts (μ : Mu) (ps : List (Nat × V)) (cps : List (Nat × Value)) : Prop :=
  cps.length = ps.length ∧ ∀ (i : Nat) (x : Nat × V), ps[i]? = some x → ∃ y : Nat × Value, cps[i]? = some y ∧ y.1 = x.1 ∧ R μ x.2 y.2

theorem RParts_cons {i : Nat} {v : V} {ps : List (Nat × V)} {cps : List (Nat × Value)} (h : RParts μ ((i, v) :: ps) cps) :
    ∃ cv rest, cps = (i, cv) :: rest ∧ R μ v cv ∧ RParts μ ps rest := by
  obtain ⟨hl, hg⟩ := h
  cases cps with
  | nil => simp at hl
  | cons y rest =>
    obtain ⟨y', h1, h2, h3⟩ := hg 0 (i, v) rfl
    simp at h1; subst h1
    obtain ⟨a, b⟩ := y
    simp at h2 h3; subst h2
    exact ⟨b, rest, rfl, h3, by simpa using hl, fun k x hx => by simpa using hg (k + 1) x (by simpa using hx)⟩

theorem fill_ok {place placeC : Nat → Option (Nat × Nat)} (hpl : ∀ i x, place i = some x → placeC i = some x) :
    ∀ (ps : List (Nat × V)) (cps : List (Nat × Value)) (cells out : List V) (cc : Array Value), RParts μ ps cps → RL μ cells cc.toList → fillA place cells ps = some out →
      ∃ oc, Instr.fill placeC cc cps = some oc ∧ RL μ out oc.toList
  | [], cps, cells, out, cc, hp, hc, h => by
    have : cps = [] := by simpa using hp.1
    subst this
    simp only [fillA] at h
    have h := Option.some.inj h; subst h
    exact ⟨cc, rfl, hc⟩
  | (i, v) :: ps, cps, cells, out, cc, hp, hc, h => by
    obtain ⟨cv, rest, e, hv, hrest⟩ := RParts_cons hp
    subst e
    simp only [fillA] at h
    split at h
    · rename_i off size hpi
      split at h
      · rename_i hb
        have hb : v.cells.length = size := by simpa using hb
        split at h
        · rename_i cells' hov
          obtain ⟨e1, e2⟩ := overS_spec _ _ _ _ hov
          subst e1
          have hcells := R_cells hv
          have hlv : cv.cells.size = v.cells.length := by have := RL_length hcells; simpa using this
          have hlc : cc.size = cells.length := by have := RL_length hc; simpa using this
          obtain ⟨oc, h1, h2⟩ := fill_ok hpl ps rest _ out _ hrest (RL_overlay hc hcells e2) h
          refine ⟨oc, ?_, h2⟩
          simp only [Instr.fill, hpl i _ hpi]
          rw [if_neg (by simp; omega)]
          exact h1
        · cases h
      · cases h
    · cases h

theorem places_ok (hpt : pt.Ok P) : ∀ (fs : List Field), allSized pt fs = true →
    ∃ places, fs.mapM (fun f => (P.info? f.type).map fun i => (f.offset, i.size)) = some places ∧
      ∀ (i : Nat) (f : Field), fs[i]? = some f → ∀ n, pt.size f.type = some n → places[i]? = some (f.offset, n)
  | [], _ => ⟨[], rfl, fun i f h => by simp at h⟩
  | f :: fs, h => by
    simp only [allSized] at h
    split at h
    · rename_i n hn
      obtain ⟨places, h1, h2⟩ := places_ok hpt fs h
      unfold PT.size at hn
      split at hn
      · rename_i i hi
        have hinfo := hpt.types _ _ hi
        refine ⟨(f.offset, i.size) :: places, by simp [List.mapM_cons, hinfo, h1], fun k g hk m hm => ?_⟩
        cases k with
        | zero =>
          simp at hk; subst hk
          unfold PT.size at hm
          rw [hi] at hm
          simp at hm ⊢
          exact hm
        | succ k => simpa using h2 k g (by simpa using hk) m hm
      · cases hn
    · cases h

theorem buildA_ok (hpt : pt.Ok P) {t : TypeId} {ps : List (Nat × V)} {cps : Array (Nat × Value)} {v : V} (h : buildA pt t ps = some v) (hp : RParts μ ps cps.toList) (w : World) :
    ∃ cv, (Instr.build t cps).run P w = .ok cv w ∧ R μ v cv := by
  unfold buildA at h
  split at h
  · rename_i z hz
    have hz' := hz
    unfold PT.zero at hz'
    split at hz'
    · rename_i it hit
      split at hz'
      · rename_i zv hzv
        have hinfo := hpt.types _ _ hit
        have hzc : RL μ z.cells zv.cells.toList := R_cells (R_ofValue μ _ _ _ hz')
        split at h
        · rename_i fs hu
          split at h
          · rename_i hall
            split at h
            · rename_i cs hf
              have h := Option.some.inj h; subst h
              obtain ⟨places, h1, h2⟩ := places_ok hpt _ hall
              obtain ⟨oc, h3, h4⟩ := fill_ok (placeC := fun i => places.toArray[i]?) (fun i x hx => by
                unfold fieldPlace? at hx
                split at hx
                · rename_i f hfi
                  split at hx
                  · rename_i n hn
                    have hx := Option.some.inj hx; subst hx
                    simpa using h2 i f (by simpa using hfi) n hn
                  · cases hx
                · cases hx) ps cps.toList _ cs _ hp hzc hf
              refine ⟨.agg oc, run_build w t cps oc ?_, oc.toList, h4, by simp⟩
              unfold Program.built
              simp only [hinfo, und_ok hpt hu, hzv, h1]
              exact h3
            · cases h
          · cases h
        · rename_i n e hu
          split at h
          · rename_i m hm
            split at h
            · rename_i cs hf
              have h := Option.some.inj h; subst h
              obtain ⟨oc, h3, h4⟩ := fill_ok (placeC := fun i => some (i * m, m)) (fun i x hx => hx) ps cps.toList _ cs _ hp hzc hf
              refine ⟨.agg oc, run_build w t cps oc ?_, oc.toList, h4, by simp⟩
              unfold Program.built
              unfold PT.size at hm
              split at hm
              · rename_i ie hie
                have hm := Option.some.inj hm; subst hm
                simp only [hinfo, und_ok hpt hu, hzv, hpt.types _ _ hie]
                exact h3
              · cases hm
            · cases h
          · cases h
        · cases h
      · cases hz'
    · cases hz'
  · cases h

end Go.AI

/- Soundness, part 5: slicing, indexing, fields. -/
namespace Go.AI
variable {P : Program} {pt : PT} {w0 : W0} {μ : Mu} {σ : St} {w : World}

def ROpt (μ : Mu) : Option V → Option Value → Prop
  | none, c => c = none
  | some x, c => ∃ y, c = some y ∧ R μ x y

theorem bound_ok {x : V} {n y : Nat} (h : natOf x = some n) {cx : Value} (hx : R μ x cx) (hn : n ≤ y) (code : BoundsCode) (w : World) : (Instr.sliceBound cx y code).run P w = .ok n w := by
  obtain ⟨k, e⟩ := natOf_ok h hx
  subst e
  have h1 : (0 : Int) ≤ Int.ofNat n ∧ Int.ofNat n ≤ (y : Int) := ⟨by simp, by simp; omega⟩
  simp only [Instr.sliceBound, asIntOf, Sem.run_bind, Sem.run_pure, Result.andThen_ok]
  rw [if_pos h1]
  rfl

theorem bounds_none {lo hi : Option V} {clo chi : Option Value} (hlo : ROpt μ lo clo) (hhi : ROpt μ hi chi) {len cap l h : Nat} (h1 : optNat hi len = some h) (h2 : optNat lo 0 = some l) (hl : l ≤ h) (hh : h ≤ cap) (isS : Bool) (w : World) :
    (Instr.sliceBounds isS len cap clo chi none).run P w = .ok (l, h, cap) w := by
  unfold Instr.sliceBounds
  have step2 : ∀ (msg : String) (K : Nat → Sem (Nat × Nat × Nat)), (match chi, (none : Option Value) with
      | some v, some _ => Instr.sliceBound v cap .slice3B >>= K
      | some v, none => Instr.sliceBound v cap (if isS then .sliceAcap else .sliceAlen) >>= K
      | none, none => (pure len : Sem Nat) >>= K
      | none, some _ => (stuck msg : Sem Nat) >>= K).run P w = (K h).run P w := by
    intro msg K
    cases hi with
    | none =>
      simp only [ROpt] at hhi; subst hhi
      simp only [optNat] at h1
      have h1 := Option.some.inj h1; subst h1
      simp
    | some x =>
      obtain ⟨y, e, hy⟩ := hhi
      subst e
      simp only [optNat] at h1
      simp only [Sem.run_bind, bound_ok h1 hy hh, Result.andThen_ok]
  have step3 : ∀ K : Nat → Sem (Nat × Nat × Nat), (match clo with
      | some v => Instr.sliceBound v h (if (none : Option Value).isSome then .slice3C else .sliceB) >>= K
      | none => (pure 0 : Sem Nat) >>= K).run P w = (K l).run P w := by
    intro K
    cases lo with
    | none =>
      simp only [ROpt] at hlo; subst hlo
      simp only [optNat] at h2
      have h2 := Option.some.inj h2; subst h2
      simp
    | some x =>
      obtain ⟨y, e, hy⟩ := hlo
      subst e
      simp only [optNat] at h2
      simp only [Sem.run_bind, bound_ok h2 hy hl, Result.andThen_ok]
  cases chi with
  | none =>
    have s2 := fun msg => step2 msg (fun h => pure (l, h, cap))
    have hlen : len = h := by
      cases hi with
      | none => simpa [optNat] using h1
      | some x => obtain ⟨y, e, _⟩ := hhi; cases e
    subst hlen
    cases clo with
    | none =>
      have : l = 0 := by
        cases lo with
        | none => simpa [optNat] using h2.symm
        | some x => obtain ⟨y, e, _⟩ := hlo; cases e
      subst this; simp
    | some v =>
      have s3 := step3 (fun l => pure (l, len, cap))
      simp only [Sem.run_bind, Sem.run_pure, Result.andThen_ok] at s3 ⊢
      exact s3
  | some u =>
    have s2 := fun msg => step2 msg (fun h => pure (l, h, cap))
    have hb : (Instr.sliceBound u cap (if isS then .sliceAcap else .sliceAlen)).run P w = .ok h w := by
      cases hi with
      | none => cases hhi
      | some x => obtain ⟨y, e, hy⟩ := hhi; cases e; exact bound_ok (by simpa [optNat] using h1) hy hh _ w
    cases clo with
    | none =>
      have : l = 0 := by
        cases lo with
        | none => simpa [optNat] using h2.symm
        | some x => obtain ⟨y, e, _⟩ := hlo; cases e
      subst this
      simp only [Sem.run_bind, Sem.run_pure, Result.andThen_ok, hb]
    | some v =>
      have s3 := step3 (fun l => pure (l, h, cap))
      simp only [Sem.run_bind, Sem.run_pure, Result.andThen_ok, hb] at s3 ⊢
      exact s3

theorem bounds_some {lo : Option V} {clo : Option Value} (hlo : ROpt μ lo clo) {xh xm : V} {ch cm : Value} (hh : R μ xh ch) (hm : R μ xm cm) {len cap l h m : Nat}
    (h1 : natOf xh = some h) (h2 : optNat lo 0 = some l) (h3 : natOf xm = some m) (hl : l ≤ h) (hhm : h ≤ m) (hmc : m ≤ cap) (isS : Bool) (w : World) :
    (Instr.sliceBounds isS len cap clo (some ch) (some cm)).run P w = .ok (l, h, m) w := by
  unfold Instr.sliceBounds
  have b1 := fun code => bound_ok (P := P) h3 hm hmc code w
  have b2 := fun code => bound_ok (P := P) h1 hh hhm code w
  cases clo with
  | none =>
    have : l = 0 := by
      cases lo with
      | none => simpa [optNat] using h2.symm
      | some x => obtain ⟨y, e, _⟩ := hlo; cases e
    subst this
    simp only [Sem.run_bind, Sem.run_pure, Result.andThen_ok, b1, b2]
  | some v =>
    have b3 : ∀ code, (Instr.sliceBound v h code).run P w = .ok l w := by
      intro code
      cases lo with
      | none => cases hlo
      | some x => obtain ⟨y, e, hy⟩ := hlo; cases e; exact bound_ok (by simpa [optNat] using h2) hy hl _ w
    simp only [Sem.run_bind, Sem.run_pure, Result.andThen_ok, b1, b2, b3]

/-- The slice that comes of a slice. -/
theorem capTop_le {cap : Cap} {len cc : Nat} (hl : len ≤ cc) (hc : cap.ok cc) : capTop cap len ≤ cc := by
  cases cap with
  | exact c => simp only [Cap.ok] at hc; simp only [capTop]; omega
  | least c =>
    simp only [Cap.ok] at hc
    simp only [capTop]
    split <;> omega
theorem capSub_ok {cap : Cap} {cc l : Nat} (hc : cap.ok cc) : (capSub cap l).ok (cc - l) := by
  cases cap with
  | exact c => simp only [Cap.ok] at hc; simp only [capSub, Cap.ok]; omega
  | least c => simp only [Cap.ok] at hc; simp only [capSub, Cap.ok]; omega

theorem R_resliced {b o : Nat} {sz : Nat} {ca : Addr} {cc : Nat} (ha : cc ≠ 0 → ∃ p, μ b = some p ∧ ca = ⟨p.blk, p.off + o, none⟩ ∧ p.off + o + cc * sz ≤ p.size) (hmb : ∃ p, μ b = some p) {l h m : Nat} (hlh : l ≤ h) (hhm : h ≤ m) (hm : m ≤ cc) {cap' : Cap} (hcap : cap'.ok (m - l)) :
    R μ (.slice b (o + l * sz) (h - l) cap' sz) (.slice (if m = l then some ca else (some ca).map (·.add (l * sz))) (h - l) (m - l)) := by
  refine ⟨if m = l then ca else ca.add (l * sz), m - l, by split <;> rfl, by omega, hcap, fun hne => ?_, hmb⟩
  have hml : m ≠ l := by omega
  obtain ⟨p, hp, e, hsz⟩ := ha (by omega)
  refine ⟨p, hp, ?_, ?_⟩
  · rw [if_neg hml, e, add_place]; simp; omega
  · have : l * sz + (m - l) * sz = m * sz := by rw [← Nat.add_mul]; congr 1; omega
    have : m * sz ≤ cc * sz := Nat.mul_le_mul_right _ hm
    omega

theorem extract_data (ba : ByteArray) (l h : Nat) (hlh : l ≤ h) : (ba.extract l h).data.toList = (ba.data.toList.drop l).take (h - l) := by
  simp [ByteArray.extract, ByteArray.copySlice, Nat.add_sub_cancel' hlh, List.take_drop]

theorem sliceStr_ok {ba : ByteArray} {lo hi : Option V} {clo chi : Option Value} {v : V} (h : sliceStr ba.data.toList lo hi = some v) (hlo : ROpt μ lo clo) (hhi : ROpt μ hi chi)
    {t : TypeId} (hpt : pt.Ok P) (hu : pt.und t = some .string) (w : World) :
    ∃ cv, (Instr.sliceAt t (.string ba) clo chi none).run P w = .ok cv w ∧ R μ v cv := by
  unfold sliceStr at h
  split at h
  · rename_i hh h1
    split at h
    · rename_i ll h2
      split at h
      · rename_i hb
        simp only [Bool.and_eq_true, Nat.ble_eq] at hb
        split at h
        · rename_i r hr
          have h := Option.some.inj h; subst h
          obtain ⟨e, _⟩ := takeN_spec _ _ _ hr
          have hsz : ba.size = ba.data.toList.length := rfl
          have hbd := bounds_none (P := P) hlo hhi (len := ba.size) (cap := ba.size) (by rw [hsz]; exact h1) h2 hb.1 (by omega) false w
          refine ⟨.string (ba.extract ll hh), ?_, _, rfl, ?_⟩
          · simp [Instr.sliceAt, Instr.slice, run_und hpt hu w, hbd]
          · rw [extract_data _ _ _ hb.1, e]
        · cases h
      · cases h
    · cases h
  · cases h

theorem sliceA_ok (hpt : pt.Ok P) (hs : SR w0 μ σ w) {t : TypeId} {x : V} {lo hi mx : Option V} {v : V} (h : sliceA pt t σ x lo hi mx = some v) {cx : Value} {clo chi cmx : Option Value}
    (hx : R μ x cx) (hlo : ROpt μ lo clo) (hhi : ROpt μ hi chi) (hmx : ROpt μ mx cmx) : ∃ cv, (Instr.sliceAt t cx clo chi cmx).run P w = .ok cv w ∧ R μ v cv := by
  unfold sliceA at h
  split at h
  · rename_i s
    split at h
    · rename_i hu
      obtain ⟨ba, e, e2⟩ := hx
      subst e; subst e2
      simp only [ROpt] at hmx; subst hmx
      exact sliceStr_ok h hlo hhi hpt hu w
    · cases h
  · simp only [R] at hx; subst hx
    split at h
    · rename_i en he
      obtain ⟨e, n⟩ := en
      obtain ⟨hu, hn⟩ := elem_ok he
      split at h
      · rename_i hm0 hh0 hl0
        have main : ∀ m, (Instr.sliceBounds true 0 0 clo chi cmx).run P w = .ok (0, 0, m) w → m = 0 → ∃ cv, (Instr.sliceAt t (.slice none 0 0) clo chi cmx).run P w = .ok cv w ∧ R μ .nilslice cv := by
          intro m hb e0
          subst e0
          exact ⟨.slice none 0 0, by simp [Instr.sliceAt, Instr.slice, run_und hpt hu w, hb, run_size hpt hn w], rfl⟩
        split at h
        · cases h
        · rename_i hne
          have h := Option.some.inj h; subst h
          cases mx with
          | none =>
            simp only [ROpt] at hmx; subst hmx
            exact main 0 (bounds_none hlo hhi hh0 hl0 (Nat.le_refl _) (Nat.le_refl _) true w) rfl
          | some xm =>
            cases hi with
            | none => exact absurd rfl (hne xm rfl)
            | some xh =>
              obtain ⟨ym, em, hym⟩ := hmx
              obtain ⟨yh, eh, hyh⟩ := hhi
              subst em; subst eh
              exact main 0 (bounds_some hlo hyh hym (by simpa [optNat] using hh0) hl0 (by simpa [optNat] using hm0) (Nat.le_refl _) (Nat.le_refl _) (Nat.le_refl _) true w) rfl
      · cases h
    · cases h
  · rename_i b o len cap sz
    obtain ⟨ca, cc, e, hl, hc, ha, hmb⟩ := hx
    subst e
    split at h
    · rename_i e n he
      obtain ⟨hu, hn⟩ := elem_ok he
      split at h
      · rename_i hb
        have hb : n = sz := by simpa using hb
        subst hb
        split at h
        · simp only [ROpt] at hmx; subst hmx
          split at h
          · rename_i hh ll h1 h2
            split at h
            · rename_i hb2
              simp only [Bool.and_eq_true, Nat.ble_eq] at hb2
              have h := Option.some.inj h; subst h
              have hcc : hh ≤ cc := Nat.le_trans hb2.2 (capTop_le hl hc)
              have hbd := bounds_none (P := P) hlo hhi (cap := cc) h1 h2 hb2.1 hcc true w
              refine ⟨_, ?_, R_resliced ha hmb hb2.1 hcc (Nat.le_refl cc) (cap' := capSub cap ll) ?_⟩
              · simp [Instr.sliceAt, Instr.slice, run_und hpt hu w, hbd, run_size hpt hn w]
              · exact capSub_ok hc
            · cases h
          · cases h
        · rename_i xm
          split at h
          · cases h
          · rename_i xh
            obtain ⟨ym, em, hym⟩ := hmx
            obtain ⟨yh, eh, hyh⟩ := hhi
            subst em; subst eh
            split at h
            · rename_i m hh ll h3 h1 h2
              split at h
              · rename_i hb2
                simp only [Bool.and_eq_true, Nat.ble_eq] at hb2
                have h := Option.some.inj h; subst h
                have hcc : m ≤ cc := Nat.le_trans hb2.2 (capTop_le hl hc)
                have hbd := bounds_some (P := P) hlo hyh hym (len := len) h1 h2 h3 hb2.1.1 hb2.1.2 hcc true w
                refine ⟨_, ?_, R_resliced ha hmb hb2.1.1 hb2.1.2 hcc (cap' := .exact (m - ll)) rfl⟩
                simp [Instr.sliceAt, Instr.slice, run_und hpt hu w, hbd, run_size hpt hn w]
              · cases h
            · cases h
      · cases h
    · cases h
  · rename_i b o
    obtain ⟨p, hp, e⟩ := hx
    subst e
    split at h
    · rename_i n e harr
      split at h
      · rename_i s ro cs hsz hg
        simp only [ROpt] at hmx; subst hmx
        split at h
        · rename_i r htk
          split at h
          · rename_i hh ll h1 h2
            split at h
            · rename_i hb
              simp only [Bool.and_eq_true, Nat.ble_eq] at hb
              have h := Option.some.inj h; subst h
              have hbd := bounds_none (P := P) hlo hhi h1 h2 hb.1 hb.2 false w
              have hfit : n ≠ 0 → p.off + o + n * (s + 1) ≤ p.size := by
                intro hn0
                obtain ⟨O, hO, c, e, fr, ho, hsize, hcells, _⟩ := hs.obj b p _ hp hg
                obtain ⟨_, hlen⟩ := takeN_spec _ _ _ htk
                have hpos : 0 < n * (s + 1) := Nat.mul_pos (by omega) (by omega)
                simp only [List.length_drop] at hlen
                obtain ⟨cv, h3, _⟩ := hcells (o + n * (s + 1) - 1) cs[o + n * (s + 1) - 1] (by simp)
                rcases Nat.lt_or_ge (p.off + (o + n * (s + 1) - 1)) c.size with hh' | hh'
                · omega
                · rw [Array.getElem?_eq_none hh'] at h3; cases h3
              have hR := R_resliced (μ := μ) (b := b) (o := o) (sz := s + 1) (ca := ⟨p.blk, p.off + o, none⟩) (cc := n)
                (fun hne => ⟨p, hp, rfl, hfit hne⟩) ⟨p, hp⟩ hb.1 hb.2 (Nat.le_refl n) (cap' := .exact (n - ll)) rfl
              have e2 : (if n = ll then some (⟨p.blk, p.off + o, none⟩ : Addr) else (some (⟨p.blk, p.off + o, none⟩ : Addr)).map (·.add (ll * (s + 1)))) =
                  some (if n = ll then (⟨p.blk, p.off + o, none⟩ : Addr) else (⟨p.blk, p.off + o, none⟩ : Addr).add (ll * (s + 1))) := by split <;> rfl
              rw [e2] at hR
              refine ⟨_, ?_, hR⟩
              unfold PT.arrayOf at harr
              split at harr
              · rename_i hu
                simp at harr; obtain ⟨rfl, rfl⟩ := harr
                simp [Instr.sliceAt, Instr.sureAddr, run_und hpt hu w, hbd, run_size hpt hsz w]
              · rename_i a hu
                split at harr
                · rename_i hu2
                  simp at harr; obtain ⟨rfl, rfl⟩ := harr
                  simp [Instr.sliceAt, Instr.slice, asAddr, run_und hpt hu w, run_und hpt hu2 w, hbd, run_size hpt hsz w]
                · cases harr
              · cases harr
            · cases h
          · cases h
        · cases h
      · cases h
    · cases h
  · cases h

/-! ### Addresses of elements and fields; parts -/

theorem indexAddrA_ok (hpt : pt.Ok P) {t : TypeId} {x ix v : V} (h : indexAddrA pt t x ix = some v) {cx ci : Value} (hx : R μ x cx) (hi : R μ ix ci) (w : World) :
    ∃ cv, (Instr.indexAt t cx ci).run P w = .ok cv w ∧ R μ v cv := by
  unfold indexAddrA at h
  split at h
  · rename_i i hni
    obtain ⟨k, e⟩ := natOf_ok hni hi
    subst e
    split at h
    · rename_i b o len cap sz
      obtain ⟨ca, cc, e, hl, hc, ha, hmb⟩ := hx
      subst e
      split at h
      · rename_i e n he
        obtain ⟨hu, hn⟩ := elem_ok he
        split at h
        · rename_i hb
          simp only [Bool.and_eq_true, Nat.beq_eq, Nat.blt_eq] at hb
          obtain ⟨rfl, hlt⟩ := hb
          have h := Option.some.inj h; subst h
          obtain ⟨p, hp, e2, _⟩ := ha (by omega)
          subst e2
          have hin : (0 : Int) ≤ Int.ofNat i ∧ Int.ofNat i < (len : Int) := ⟨by simp, by simp; omega⟩
          refine ⟨_, ?_, p, hp, rfl⟩
          simp only [Instr.indexAt, asIntOf, Sem.run_bind, Sem.run_pure, Result.andThen_ok, run_und hpt hu w]
          rw [if_pos hin]
          simp [run_size hpt hn w, add_place]
          omega
        · cases h
      · cases h
    · rename_i b o
      obtain ⟨p, hp, e⟩ := hx
      subst e
      split at h
      · rename_i n e hu
        split at h
        · rename_i sz hn
          split at h
          · rename_i hb
            simp only [Nat.blt_eq] at hb
            have h := Option.some.inj h; subst h
            have hin : (0 : Int) ≤ Int.ofNat i ∧ Int.ofNat i < (n : Int) := ⟨by simp, by simp; omega⟩
            refine ⟨_, ?_, p, hp, rfl⟩
            simp only [Instr.indexAt, asIntOf, Sem.run_bind, Sem.run_pure, Result.andThen_ok, run_und hpt hu w, Instr.sureAddr]
            rw [if_pos hin]
            simp [run_size hpt hn w, add_place]
            omega
          · cases h
        · cases h
      · cases h
    · cases h
  · cases h

theorem partA_ok (hpt : pt.Ok P) {t : TypeId} {cs : List V} {o : Nat} {v : V} (h : partA pt t cs o = some v) {cc : List Value} (hc : RL μ cs cc) (w : World) :
    ∃ cv, (part t cc.toArray o).run P w = .ok cv w ∧ R μ v cv := by
  unfold partA at h
  split at h
  · rename_i ha
    split at h
    · rename_i n hn
      split at h
      · rename_i l hl
        have h := Option.some.inj h; subst h
        obtain ⟨e, _⟩ := takeN_spec _ _ _ hl
        subst e
        refine ⟨_, ?_, (cc.drop o).take n, RL_take n (RL_drop o hc), rfl⟩
        simp [part, run_agg hpt ha w, run_size hpt hn w, List.extract_toArray, List.extract_eq_take_drop]
      · cases h
    · cases h
  · rename_i ha
    obtain ⟨y, hy, hr⟩ := RL_get hc _ _ h
    refine ⟨y, ?_, hr⟩
    simp [part, run_agg hpt ha w, hy]
  · cases h

theorem indexA_ok (hpt : pt.Ok P) {t : TypeId} {x ix v : V} (h : indexA pt t x ix = some v) {cx ci : Value} (hx : R μ x cx) (hi : R μ ix ci) (w : World) :
    ∃ cv, (Instr.index t cx ci).run P w = .ok cv w ∧ R μ v cv := by
  unfold indexA at h
  split at h
  · rename_i i hni
    obtain ⟨k, e⟩ := natOf_ok hni hi
    subst e
    split at h
    · rename_i cs n e hu
      obtain ⟨cc, hcc, e2⟩ := hx
      subst e2
      split at h
      · rename_i sz hn hb
        simp only [Nat.blt_eq] at hb
        have hin : (0 : Int) ≤ Int.ofNat i ∧ Int.ofNat i < (n : Int) := ⟨by simp, by simp; omega⟩
        obtain ⟨cv, h1, h2⟩ := partA_ok (P := P) hpt h hcc w
        refine ⟨cv, ?_, h2⟩
        simp only [Instr.index, asIntOf, Sem.run_bind, Sem.run_pure, Result.andThen_ok, run_und hpt hu w]
        rw [if_pos hin]
        simp [run_size hpt hn w, h1]
      · cases h
    · rename_i s hu
      obtain ⟨ba, e, e2⟩ := hx
      subst e; subst e2
      split at h
      · rename_i c hc
        have h := Option.some.inj h; subst h
        have hlt : i < ba.size := by
          rcases Nat.lt_or_ge i ba.data.toList.length with hh | hh
          · exact hh
          · rw [List.getElem?_eq_none hh] at hc; cases hc
        have hget : ba[i]? = some c := by
          rw [getElem?_pos ba i hlt]
          have : ba.data.toList[i]'hlt = c := by
            rw [List.getElem?_eq_getElem hlt] at hc; exact Option.some.inj hc
          rw [← this]; rfl
        have h0 : (0 : Int) ≤ Int.ofNat i := by simp
        refine ⟨.int .u8 c.toNat, ?_, rfl⟩
        simp only [Instr.index, asIntOf, Sem.run_bind, Sem.run_pure, Result.andThen_ok, run_und hpt hu w, h0, if_true]
        simp [hget]
      · cases h
    · cases h
  · cases h

theorem fieldAddrA_ok (hpt : pt.Ok P) {s : TypeId} {x v : V} {f : Nat} (h : fieldAddrA pt s x f = some v) {cx : Value} (hx : R μ x cx) (w : World) :
    ∃ cv, (Instr.fieldAt s cx f).run P w = .ok cv w ∧ R μ v cv := by
  unfold fieldAddrA at h
  split at h
  · rename_i b o
    obtain ⟨p, hp, e⟩ := hx
    subst e
    split at h
    · rename_i fs hu
      split at h
      · rename_i fd hf
        split at h
        · rename_i n hn
          have h := Option.some.inj h; subst h
          refine ⟨_, ?_, p, hp, rfl⟩
          simp [Instr.fieldAt, Instr.sureAddr, run_und hpt hu w, hf, fieldPlace, run_size hpt hn w, add_place]
          omega
        · cases h
      · cases h
    · cases h
  · cases h

theorem fieldA_ok (hpt : pt.Ok P) {t : TypeId} {x v : V} {f : Nat} (h : fieldA pt t x f = some v) {cx : Value} (hx : R μ x cx) (w : World) :
    ∃ cv, (Instr.field t cx f).run P w = .ok cv w ∧ R μ v cv := by
  unfold fieldA at h
  split at h
  · rename_i cs
    obtain ⟨cc, hcc, e⟩ := hx
    subst e
    split at h
    · rename_i fs hu
      split at h
      · rename_i fd hf
        obtain ⟨cv, h1, h2⟩ := partA_ok (P := P) hpt h hcc w
        exact ⟨cv, by simp [Instr.field, run_und hpt hu w, hf, asAgg, h1], h2⟩
      · cases h
    · cases h
  · cases h

end Go.AI
