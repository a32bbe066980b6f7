/- Soundness, part 11: one operation, whichever. -/
import Derived.Test.YtcfhmlpahjhigaaGreatDoorZC
namespace Go.AI
variable {P : Program} {pt : PT} {w0 : W0} {μ : Mu} {σ : St} {w : World}

theorem range_ok (hpt : pt.Ok P) (h : SR w0 μ σ w) {t : TypeId} {s : List UInt8} (hu : pt.und t = some .string) {cx : Value} (hx : R μ (.str s) cx) :
    Yields P w0 μ σ w (Instr.range t cx) (.ptr σ.next 0) (σ.alloc (.iter s 0)) := by
  obtain ⟨ba, e, e2⟩ := hx
  subst e; subst e2
  obtain ⟨h1, h2⟩ := h.alloc (a := .iter ba.data.toList 0) (O := .stringIter ba 0) (p := ⟨w.heap.size, 0, 0⟩) rfl ⟨⟨ba, rfl, rfl⟩, rfl, h.below.new⟩
  refine ⟨_, _, _, ?_, h1, h2, _, Mu.add_same _ _ _, rfl⟩
  simp only [Instr.range, Sem.run_bind, run_und hpt hu w, Result.andThen_ok, Sem.run_pure, run_newObj]

theorem newMap_ok (h : SR w0 μ σ w) : ∃ μ', SR w0 μ' (σ.alloc (.map [] 0)) { w with heap := w.heap.push (.map #[] 0) } ∧ Ext μ σ μ' (σ.alloc (.map [] 0)) ∧ R μ' (.map σ.next) (.map (some w.heap.size)) := by
  obtain ⟨h1, h2⟩ := h.alloc (a := .map [] 0) (O := .map #[] 0) (p := ⟨w.heap.size, 0, 0⟩) rfl ⟨#[], rfl, .nil, h.below.new⟩
  exact ⟨_, h1, h2, _, Mu.add_same _ _ _, rfl⟩

theorem builtinA_ok (hpt : pt.Ok P) (h : SR w0 μ σ w) {b : Builtin} {argTypes : Array TypeId} {args : List V} {nx : ANext} {σ' : St} (he : builtinA pt b argTypes args σ = some (nx, σ'))
    {cargs : List Value} (hr : RL μ args cargs) (t : TypeId) (consts : Array Bool) : Comes2 P w0 μ σ w (builtin b argTypes t consts cargs.toArray) σ' nx := by
  unfold builtinA at he
  split at he
  · rename_i s x
    obtain ⟨cs, _, hs, ⟨cx, _, hx, hn, e2⟩, e1⟩ := hr
    subst e2; subst e1; simp only [RL] at hn; subst hn
    split at he
    · rename_i v σ₁ ha
      cases he
      exact of_yields (appendA_ok hpt h ha hs hx t)
    · cases he
  · rename_i d x
    obtain ⟨cd, _, hd, ⟨cx, _, hx, hn, e2⟩, e1⟩ := hr
    subst e2; subst e1; simp only [RL] at hn; subst hn
    split at he
    · rename_i v σ₁ ha
      cases he
      exact of_yields (copyA_ok hpt h ha hd hx t)
    · cases he
  · rename_i x
    obtain ⟨cx, _, hx, hn, e1⟩ := hr
    subst e1; simp only [RL] at hn; subst hn
    split at he
    · rename_i t0 h0
      split at he
      · rename_i v hv
        cases he
        exact of_yields (Yields.same h (lenOfA_ok hpt h h0 hv hx t))
      · cases he
    · cases he
  · rename_i x
    obtain ⟨cx, _, hx, hn, e1⟩ := hr
    subst e1; simp only [RL] at hn; subst hn
    split at he
    · rename_i t0 h0
      split at he
      · rename_i v hv
        cases he
        exact of_yields (Yields.same h (capOfA_ok hpt h0 hv hx t w))
      · cases he
    · cases he
  · rename_i x
    obtain ⟨cx, _, hx, hn, e1⟩ := hr
    subst e1; simp only [RL] at hn; subst hn
    split at he
    · rename_i t0 h0
      split at he
      · rename_i σ₁ hv
        cases he
        exact of_yields (clearA_ok hpt h h0 hv hx t)
      · cases he
    · cases he
  · rename_i m k
    obtain ⟨cm, _, hm, ⟨ck, _, hk, hn, e2⟩, e1⟩ := hr
    subst e2; subst e1; simp only [RL] at hn; subst hn
    split at he
    · rename_i t0 h0
      split at he
      · rename_i σ₁ hv
        cases he
        exact of_yields (deleteA_ok hpt h h0 hv hm hk t)
      · cases he
    · cases he
  · rename_i x xs
    obtain ⟨cx, cxs, hx, hxs, e1⟩ := hr
    subst e1
    split at he
    · rename_i v hv
      cases he
      exact of_yields (Yields.same h (by
        obtain ⟨cv, h1, h2⟩ := fold_ok (P := P) (mx := false) xs cxs hv hx hxs w
        exact ⟨cv, by simpa [Builtin.min_] using h1, h2⟩))
    · cases he
  · rename_i x xs
    obtain ⟨cx, cxs, hx, hxs, e1⟩ := hr
    subst e1
    split at he
    · rename_i v hv
      cases he
      exact of_yields (Yields.same h (by
        obtain ⟨cv, h1, h2⟩ := fold_ok (P := P) (mx := true) xs cxs hv hx hxs w
        exact ⟨cv, by simpa [Builtin.max_] using h1, h2⟩))
    · cases he
  · cases he; trivial
  · cases he

theorem arr_map {α β : Type} (f : α → β) (a : Array α) : a.map f = (a.toList.map f).toArray := by
  apply Array.toList_inj.1
  rw [Array.toList_map]

theorem run_invoke_func (f : FuncId) (cap args : Array Value) : invoke (.fn (.func f) cap) args = callFunc f (args ++ cap) := rfl

theorem callV_ok {ρ : Operand → Option V} {cρ : Operand → Value} (hρ : ROp μ ρ cρ) {f : Operand} {args : List V} {nx : ANext} {σ' : St} (he : oCallV ρ σ f args = some (nx, σ')) {cargs : List Value} (hr : RL μ args cargs) :
    Comes2 P w0 μ σ w (do let d ← Deferred.ofValue (cρ f) cargs.toArray; invoke d.target d.args) σ' nx := by
  unfold oCallV at he
  split at he
  · rename_i fn first captured hf
    obtain ⟨g, a, c, hg, ha, hc, e⟩ := hρ _ _ hf
    split at he
    · rename_i g'
      cases he
      simp only [fnRel] at hg
      subst hg
      refine ⟨rfl, a ++ (cargs ++ c), RL_append ha (RL_append hr hc), ?_⟩
      rw [e]
      simp only [Deferred.ofValue, Sem.run_bind, Sem.run_pure, Result.andThen_ok, run_invoke_func]
      congr 2
      simp
    · rename_i l
      cases he
      obtain ⟨p, hp, e2⟩ := hg
      subst e2
      simp only [RL] at hc; subst hc
      refine ⟨rfl, p, a ++ cargs, hp, RL_append ha hr, ?_⟩
      rw [e]
      simp only [Deferred.ofValue, Sem.run_bind, Sem.run_pure, Result.andThen_ok, invoke]
      congr 2
      simp
    · cases he
  · cases he

theorem opA_ok (hpt : pt.Ok P) (h : SR w0 μ σ w) {ρ : Operand → Option V} {cρ : Operand → Value} (hρ : ROp μ ρ cρ) {o : Oper} {nx : ANext} {σ' : St} (he : opA pt ρ o σ = some (nx, σ')) :
    Comes2 P w0 μ σ w (execOp cρ o) σ' nx := by
  unfold opA at he
  split at he
  case h_1 x ho =>
    obtain ⟨v, h1, rfl, rfl⟩ := rV_ok he
    exact ⟨cρ x, w, μ, by simp [execOp, ho], h, Ext.refl _ _, hρ _ _ h1⟩
  case h_2 x ho =>
    obtain ⟨v, h1, rfl, rfl⟩ := rV_ok he
    exact ⟨cρ x, w, μ, by simp [execOp, ho], h, Ext.refl _ _, hρ _ _ h1⟩
  case h_3 c a b ho =>
    unfold oPick at he
    split at he
    · rename_i hc
      obtain ⟨v, h1, rfl, rfl⟩ := rV_ok he
      have := hρ _ _ hc
      simp only [R] at this
      exact ⟨cρ a, w, μ, by simp [execOp, ho, this, asBool], h, Ext.refl _ _, hρ _ _ h1⟩
    · rename_i hc
      obtain ⟨v, h1, rfl, rfl⟩ := rV_ok he
      have := hρ _ _ hc
      simp only [R] at this
      exact ⟨cρ b, w, μ, by simp [execOp, ho, this, asBool], h, Ext.refl _ _, hρ _ _ h1⟩
    · cases he
  case h_4 e ho =>
    unfold oAlloc at he
    split at he
    · rename_i z hz
      cases he
      simp only [execOp, ho]
      exact of_yields (alloc_ok hpt h hz)
    · cases he
  case h_5 e x ho =>
    obtain ⟨v, h1, h2⟩ := w1_ok he
    cases h2
    simp only [execOp, ho]
    exact of_yields (box_ok h (hρ _ _ h1))
  case h_6 t ps ho =>
    unfold oBuild at he
    split at he
    · rename_i l hl
      obtain ⟨v, h1, rfl, rfl⟩ := rV_ok he
      simp only [execOp, ho]
      refine of_yields (Yields.same h (buildA_ok hpt h1 ?_ w))
      have := parts_ok hρ _ _ hl
      simpa using this
    · cases he
  case h_7 t n ps ho =>
    unfold oBuildSlice at he
    split at he
    · rename_i l hl
      obtain ⟨v, h1, rfl⟩ := rVS_ok he
      simp only [execOp, ho]
      refine of_yields (buildSliceA_ok hpt h h1 ?_)
      have := parts_ok hρ _ _ hl
      simpa using this
    · cases he
  case h_8 t a ho =>
    obtain ⟨v, h1, h2⟩ := w1_ok he
    obtain ⟨u, h3, rfl, rfl⟩ := rV_ok h2
    simp only [execOp, ho]
    exact of_yields (Yields.same h (loadAt_ok hpt h (hρ _ _ h1) h3))
  case h_9 t a x ho =>
    obtain ⟨v, u, h1, h2, h3⟩ := w2_ok he
    obtain ⟨h4, rfl⟩ := rS_ok h3
    simp only [execOp, ho]
    exact of_store (storeAt_ok hpt h (hρ _ _ h1) (hρ _ _ h2) h4)
  case h_10 x ho =>
    unfold oNilCheck at he
    split at he
    · rename_i b o hx
      cases he
      obtain ⟨p, hp, e⟩ := hρ _ _ hx
      exact ⟨_, w, μ, by simp [execOp, ho, e], h, Ext.refl _ _, p, hp, rfl⟩
    · rename_i f a c hx
      cases he
      obtain ⟨g, ca, cc, hg, ha, hc, e⟩ := hρ _ _ hx
      simp only [fnRel] at hg; subst hg
      exact ⟨_, w, μ, by simp [execOp, ho, e], h, Ext.refl _ _, _, ca, cc, rfl, ha, hc, rfl⟩
    · rename_i l a c hx
      cases he
      obtain ⟨g, ca, cc, hg, ha, hc, e⟩ := hρ _ _ hx
      obtain ⟨p, hp, e2⟩ := hg; subst e2
      exact ⟨_, w, μ, by simp [execOp, ho, e], h, Ext.refl _ _, _, ca, cc, ⟨p, hp, rfl⟩, ha, hc, rfl⟩
    · cases he
  case h_11 op t x y yt ho =>
    obtain ⟨v, u, h1, h2, h3⟩ := w2_ok he
    obtain ⟨r, h4, rfl, rfl⟩ := rV_ok h3
    simp only [execOp, ho]
    exact of_yields (Yields.same h (binA_ok hpt h4 (hρ _ _ h1) (hρ _ _ h2) x y w))
  case h_12 op t x ho =>
    obtain ⟨v, h1, h2⟩ := w1_ok he
    obtain ⟨u, h3, rfl, rfl⟩ := rV_ok h2
    simp only [execOp, ho]
    exact of_yields (Yields.same h (unA_ok h3 (hρ _ _ h1) w))
  case h_13 src dst x ho =>
    obtain ⟨v, h1, h2⟩ := w1_ok he
    obtain ⟨u, h3, rfl⟩ := rVS_ok h2
    simp only [execOp, ho]
    exact of_yields (convA_ok hpt h h3 (hρ _ _ h1))
  case h_14 t x ho =>
    unfold oIface at he
    split at he
    · rename_i v d h1 h2
      have st := run_und hpt h2 w
      split at he
      · cases he
      · rename_i hni
        cases he
        refine ⟨.iface t (cρ x), w, μ, ?_, h, Ext.refl _ _, _, hρ _ _ h1, rfl⟩
        simp only [execOp, ho, Sem.run_bind, Instr.makeInterface, st, Result.andThen_ok]
        cases d <;> first | rfl | exact absurd rfl (hni _)
    · cases he
  case h_15 fn first captured ho =>
    unfold oMakeFunc at he
    split at he
    · rename_i f a c h1 h2
      cases he
      refine ⟨_, w, μ, by simp [execOp, ho, Instr.makeFunc]; rfl, h, Ext.refl _ _, .func f, _, _, rfl, operands_ok hρ _ _ h1, operands_ok hρ _ _ h2, by rw [← arr_map, ← arr_map]⟩
    · cases he
  case h_16 t r ho =>
    unfold oMakeMap at he
    obtain ⟨μ', k1, k2, k3⟩ := newMap_ok h
    split at he
    · cases he
      exact ⟨_, _, μ', by simp only [execOp, ho, Instr.makeMap, Sem.run_bind, run_newObj, Result.andThen_ok, Option.map_none, Sem.run_pure], k1, k2, k3⟩
    · rename_i x
      split at he
      · rename_i k n kt et h1 h2
        cases he
        have := hρ _ _ h1
        simp only [R] at this
        refine ⟨_, _, μ', ?_, k1, k2, k3⟩
        simp only [execOp, ho, Instr.makeMap, Sem.run_bind, run_und hpt h2 w, this, asInt, asIntOf, run_newObj, Result.andThen_ok, Option.map_some, Sem.run_pure]
      · cases he
  case h_17 t l c ho =>
    obtain ⟨v, u, h1, h2, h3⟩ := w2_ok he
    obtain ⟨r, h4, rfl⟩ := rVS_ok h3
    simp only [execOp, ho]
    exact of_yields (makeSliceA_ok hpt h h4 (hρ _ _ h1) (hρ _ _ h2))
  case h_18 t x lo hi mx ho =>
    unfold oSlice at he
    split at he
    · rename_i v lo' hi' mx' h1 h2 h3 h4
      obtain ⟨r, h5, rfl, rfl⟩ := rV_ok he
      simp only [execOp, ho]
      exact of_yields (Yields.same h (sliceA_ok hpt h h5 (hρ _ _ h1) (optOperand_ok hρ h2) (optOperand_ok hρ h3) (optOperand_ok hρ h4)))
    · cases he
  case h_19 s x f ho =>
    obtain ⟨v, h1, h2⟩ := w1_ok he
    obtain ⟨u, h3, rfl, rfl⟩ := rV_ok h2
    simp only [execOp, ho]
    exact of_yields (Yields.same h (fieldAddrA_ok hpt h3 (hρ _ _ h1) w))
  case h_20 t x f ho =>
    obtain ⟨v, h1, h2⟩ := w1_ok he
    obtain ⟨u, h3, rfl, rfl⟩ := rV_ok h2
    simp only [execOp, ho]
    exact of_yields (Yields.same h (fieldA_ok hpt h3 (hρ _ _ h1) w))
  case h_21 t x i ho =>
    obtain ⟨v, u, h1, h2, h3⟩ := w2_ok he
    obtain ⟨r, h4, rfl, rfl⟩ := rV_ok h3
    simp only [execOp, ho]
    exact of_yields (Yields.same h (indexAddrA_ok hpt h4 (hρ _ _ h1) (hρ _ _ h2) w))
  case h_22 t x i ho =>
    obtain ⟨v, u, h1, h2, h3⟩ := w2_ok he
    obtain ⟨r, h4, rfl, rfl⟩ := rV_ok h3
    simp only [execOp, ho]
    exact of_yields (Yields.same h (indexA_ok hpt h4 (hρ _ _ h1) (hρ _ _ h2) w))
  case h_23 t m k ok ho =>
    obtain ⟨v, u, h1, h2, h3⟩ := w2_ok he
    obtain ⟨r, h4, rfl, rfl⟩ := rV_ok h3
    simp only [execOp, ho]
    exact of_yields (Yields.same h (lookupA_ok hpt h h4 (hρ _ _ h1) (hρ _ _ h2)))
  case h_24 t m k x ho =>
    obtain ⟨v, u, z, h1, h2, h3, h4⟩ := w3_ok he
    obtain ⟨h5, rfl⟩ := rS_ok h4
    simp only [execOp, ho]
    exact of_store (updateA_ok hpt h h5 (hρ _ _ h1) (hρ _ _ h2) (hρ _ _ h3))
  case h_25 t m k x ho =>
    obtain ⟨v, u, z, h1, h2, h3, h4⟩ := w3_ok he
    obtain ⟨h5, rfl⟩ := rS_ok h4
    simp only [execOp, ho]
    exact of_store (updateA_ok hpt h h5 (hρ _ _ h1) (hρ _ _ h2) (hρ _ _ h3))
  case h_26 t m k ho =>
    obtain ⟨v, u, h1, h2, h3⟩ := w2_ok he
    obtain ⟨r, h4, rfl⟩ := rVS_ok h3
    simp only [execOp, ho]
    exact of_yields (mapEntryA_ok hpt h h4 (hρ _ _ h1) (hρ _ _ h2))
  case h_27 t m s x ho =>
    obtain ⟨v, u, z, h1, h2, h3, h4⟩ := w3_ok he
    obtain ⟨h5, rfl⟩ := rS_ok h4
    simp only [execOp, ho]
    exact of_store (entryStoreA_ok h h5 (hρ _ _ h1) (hρ _ _ h2) (hρ _ _ h3) t)
  case h_28 t x ho =>
    unfold oRange at he
    split at he
    · rename_i s h1 h2
      cases he
      simp only [execOp, ho]
      exact of_yields (range_ok hpt h h1 (hρ _ _ h2))
    · cases he
  case h_29 it isS ho =>
    unfold oNext at he
    split at he
    · obtain ⟨v, h1, h2⟩ := w1_ok he
      obtain ⟨u, h3, rfl⟩ := rVS_ok h2
      simp only [execOp, ho]
      exact of_yields (nextA_ok h h3 (hρ _ _ h1) o.type)
    · cases he
  case h_30 x xt want ok ho =>
    obtain ⟨v, h1, h2⟩ := w1_ok he
    obtain ⟨u, h3, rfl, rfl⟩ := rV_ok h2
    simp only [execOp, ho]
    exact of_yields (Yields.same h (assertA_ok hpt h3 (hρ _ _ h1) w))
  case h_31 x i ho =>
    obtain ⟨v, h1, h2⟩ := w1_ok he
    obtain ⟨u, h3, rfl, rfl⟩ := rV_ok h2
    simp only [execOp, ho]
    exact of_yields (Yields.same h (extractA_ok h3 (hρ _ _ h1) w))
  case h_32 c ho =>
    unfold oCall at he
    split at he
    · rename_i args hargs
      have hr := operands_ok hρ _ _ hargs
      have harr : c.args.map cρ = (c.args.toList.map cρ).toArray := arr_map _ _
      split at he
      · rename_i b hb
        simp only [execOp, ho, resolve, hb, pure_bind]
        rw [harr]
        exact builtinA_ok hpt h he hr _ _
      · rename_i f hf
        simp only [execOp, ho, resolve, hf]
        rw [harr]
        exact callV_ok hρ he hr
      · cases he
    · cases he
  case h_33 c ho =>
    unfold oDefer at he
    split at he
    · rename_i args f hargs hf
      have hr := operands_ok hρ _ _ hargs
      have harr : c.args.map cρ = (c.args.toList.map cρ).toArray := arr_map _ _
      split at he
      · rename_i g first captured hfv
        cases he
        obtain ⟨g', a, cc, hg, ha, hc, e⟩ := hρ _ _ hfv
        simp only [fnRel] at hg; subst hg
        refine ⟨rfl, g, cc, a ++ c.args.toList.map cρ, rfl, hc, RL_append ha hr, ?_⟩
        simp only [execOp, ho, resolve, hf, e, Deferred.ofValue, Sem.run_bind, Sem.run_pure, Result.andThen_ok, harr]
        simp
      · cases he
    · cases he
  case h_34 => cases he

end Go.AI

/- Soundness, part 12: activations; operations in their order. -/
namespace Go.AI
variable {P : Program} {pt : PT} {w0 : W0} {μ : Mu} {σ : St} {w : World}

/-- The widest fence; in a round, or not. -/
def FR (r : Option Nat) : Fence := { Fence.wide with round := r }

inductive RDs (μ : Mu) : List ADefer → List Deferred → Prop
  | nil : RDs μ [] []
  | mark {r : Nat} {p : Loc} {ds : List ADefer} {cds : List Deferred} (hp : μ r = some p) (h : RDs μ ds cds) : RDs μ (.mark r :: ds) ({ target := .collected p.blk, args := #[] } :: cds)
  | call {f : FuncId} {cap args : List V} {ccap cargs : List Value} {ds : List ADefer} {cds : List Deferred} (hc : RL μ cap ccap) (ha : RL μ args cargs) (h : RDs μ ds cds) :
      RDs μ (.call (.func f) cap args :: ds) ({ target := .fn (.func f) ccap.toArray, args := cargs.toArray } :: cds)

theorem RDs_mono {μ μ' : Mu} (h : μ.le μ') {ds : List ADefer} {cds : List Deferred} (k : RDs μ ds cds) : RDs μ' ds cds := by
  induction k with
  | nil => exact .nil
  | mark hp _ ih => exact .mark (h _ _ hp) ih
  | call hc ha _ ih => exact .call (RL_mono h _ hc) (RL_mono h _ ha) ih

structure RAct (μ : Mu) (n : Nat) (a : AAct) (act : Act) : Prop where
  tmps : RT μ n a.tmps act.tmps
  defers : RDs μ a.defers act.defers

theorem RAct.mono {μ μ' : Mu} (h : μ.le μ') {n : Nat} {a : AAct} {act : Act} (k : RAct μ n a act) : RAct μ' n a act := ⟨RT_mono h k.tmps, RDs_mono h k.defers⟩

theorem RT.op {n : Nat} {tm : T V} {c : Array Value} (h : RT μ n tm c) (ds : List Deferred) : ROp μ (evalA tm) ({ tmps := c, defers := ds } : Act).eval := by
  intro x v hx
  cases x with
  | tmp t =>
    obtain ⟨cv, h1, h2⟩ := h.2 t v hx
    simp only [Act.eval, Array.getD_eq_getD_getElem?, h1]
    exact h2
  | const c => exact R_ofValue μ 6 _ _ hx
  | global g => cases hx
  | func f => simp only [evalA] at hx; cases hx; exact ⟨_, [], [], rfl, rfl, rfl, rfl⟩

theorem RAct.op {n : Nat} {a : AAct} {act : Act} (h : RAct μ n a act) : ROp μ (evalA a.tmps) act.eval := h.tmps.op act.defers

theorem RT.set {n : Nat} {tm : T V} {c : Array Value} (h : RT μ n tm c) {d : Nat} {v : V} {cv : Value} (hd : d < n) (hv : R μ v cv) : RT μ n (tm.set d v) (c.setIfInBounds d cv) := by
  refine ⟨by simp [h.1], fun i x hx => ?_⟩
  rw [T.get_set] at hx
  split at hx
  · subst_vars
    cases hx
    exact ⟨cv, by simp [h.1, hd], hv⟩
  · rename_i hne
    obtain ⟨cx, h1, h2⟩ := h.2 i x hx
    exact ⟨cx, by rw [Array.getElem?_setIfInBounds_ne (fun e => hne e.symm)]; exact h1, h2⟩

theorem putA_ok {n : Nat} {a a' : AAct} {act : Act} {dst : Option Tmp} {v : V} {cv : Value} (h : RAct μ n a act) (hp : putA n a dst v = some a') (hv : R μ v cv) : RAct μ n a' (act.put dst cv) := by
  unfold putA at hp
  split at hp
  · cases hp; exact h
  · split at hp
    · rename_i d hb
      cases hp
      exact ⟨h.tmps.set (Nat.blt_eq.mp hb) hv, h.defers⟩
    · cases hp

theorem R_undef : R μ .undef undef := ⟨[], rfl, rfl⟩

theorem R_bool_inv {v : V} {b : Bool} (h : R μ v (.bool b)) : v = .bool b := by
  cases v
  case bool c => simp only [R] at h; cases h; rfl
  case str => obtain ⟨_, e, _⟩ := h; cases e
  case ptr => obtain ⟨_, _, e⟩ := h; cases e
  case slice => obtain ⟨_, _, e, _⟩ := h; cases e
  case map => obtain ⟨_, _, e⟩ := h; cases e
  case func => obtain ⟨_, _, _, _, _, _, e⟩ := h; cases e
  case iface => obtain ⟨_, _, e⟩ := h; cases e
  case agg => obtain ⟨_, _, e⟩ := h; cases e
  case tuple => obtain ⟨_, _, e⟩ := h; cases e
  all_goals (simp only [R] at h; cases h)

theorem wanted_ok {n : Nat} {a : AAct} {act : Act} (h : RAct μ n a act) {all : List Oper} {o : Oper} {b : Bool} (hw : wantedA all a.tmps o = some b) : Region.wanted o (yielded all.toArray act.tmps) = b := by
  unfold wantedA at hw
  unfold Region.wanted
  split at hw
  · rename_i hg; cases hw; simp [hg]
  · rename_i j want hg
    simp only [hg]
    split at hw
    · rename_i oj hj
      rw [nth_eq] at hj
      have hj' : all.toArray[j]? = some oj := by simpa using hj
      split at hw
      · rename_i d hd
        have hy : yielded all.toArray act.tmps j = match act.tmps[d]? with | some (.bool b) => some b | _ => none := by
          simp only [yielded, hj', Option.bind_some, hd]
          rfl
        rw [hy]
        split at hw
        · rename_i bb hbb
          obtain ⟨cv, h1, h2⟩ := h.tmps.2 d _ hbb
          simp only [R] at h2; subst h2
          rw [h1]
          cases hw
          cases bb <;> cases want <;> rfl
        · rename_i v hnb hv
          obtain ⟨cv, h1, h2⟩ := h.tmps.2 d _ hv
          cases hw
          rw [h1]
          have : ∀ bb, cv ≠ .bool bb := fun bb e => by
            subst e
            exact hnb _ (R_bool_inv h2)
          cases cv <;> first | rfl | exact absurd rfl (this _)
        · cases hw
      · rename_i hd
        cases hw
        have : yielded all.toArray act.tmps j = none := by simp only [yielded, hj', Option.bind_some, hd, Option.bind_none]
        rw [this]; rfl
    · rename_i hj
      rw [nth_eq] at hj
      cases hw
      have : yielded all.toArray act.tmps j = none := by
        have hj' : all.toArray[j]? = none := by simpa using hj
        simp only [yielded, hj', Option.bind_none]
      rw [this]; rfl

end Go.AI

/- Soundness, part 13: calls; one step; operations in their order. -/
namespace Go.AI
variable {P : Program} {pt : PT}

/-- How a call that is answered ends. -/
def Ends (w0 : W0) (μ : Mu) (σ : St) (v : V) (σ' : St) : Ending → World → Prop := fun e w' =>
  ∃ μ' cv, e = .returned cv ∧ SR w0 μ' σ' w' ∧ Ext μ σ μ' σ' ∧ R μ' v cv

/-- What is known of a way to answer calls. -/
def CallOk (P : Program) (call : ACall → St → Option (AEnd × St)) : Prop :=
  ∀ c σ v σ', call c σ = some (.ret v, σ') → ∀ w0 μ w, SR w0 μ σ w → ∀ cargs : List Value, RL μ c.args cargs →
    match c.fn with
    | .func f => ((callFunc f cargs.toArray).run P w = .ok (.enter f cargs.toArray) w ∧ CallsIn (FR none) 0 P f cargs.toArray w (Ends w0 μ σ v σ')) ∨
        ((∃ fn, P.funcs[f]? = some fn ∧ fn.body = none) ∧ ∃ cv w' μ', (callFunc f cargs.toArray).run P w = .ok (.value cv) w' ∧ SR w0 μ' σ' w' ∧ Ext μ σ μ' σ' ∧ R μ' v cv)
    | .yield l => ∀ p, μ l = some p → ∃ f tmps assign body, (Instr.yield p.blk cargs.toArray).run P w = .ok (.round p.blk f tmps assign body) w ∧
        RoundIn (FR none) 0 P p.blk f tmps assign body w (Ends w0 μ σ v σ')
    | _ => False

theorem calls_round (r : Option Nat) {f : FuncId} {args : Array Value} {w : World} {Q : Ending → World → Prop} (h : CallsIn (FR none) 0 P f args w Q) : CallsIn (FR r) 0 P f args w Q := h
theorem round_round (r : Option Nat) {l f : Nat} {tmps : Array Value} {a b : Code} {w : World} {Q : Ending → World → Prop} (h : RoundIn (FR none) 0 P l f tmps a b w Q) : RoundIn (FR r) 0 P l f tmps a b w Q := h

theorem fr_fn (r : Option Nat) (f : FuncId) : (FR r).fn f := trivial
theorem fr_room (r : Option Nat) (n : Nat) : (FR r).room n := fun _ h => by simp [FR, Fence.wide] at h

/-- The round of an activation, on both sides. -/
def RRound (μ : Mu) : Option Nat → Option Nat → Prop
  | none, r => r = none
  | some l, r => ∃ p, μ l = some p ∧ r = some p.blk

section
variable {call : ACall → St → Option (AEnd × St)} (hcall : CallOk P call) (hpt : pt.Ok P) {n : Nat} {rnd r : Option Nat}
include hcall hpt

theorem step_ok {w0 : W0} {μ : Mu} {σ σ' : St} {w : World} {o : Oper} {a a' : AAct} {v : V} (hs : stepA call pt n rnd o a σ = some (v, a', σ')) (h : SR w0 μ σ w) {act : Act} (ha : RAct μ n a act) (hr : RRound μ rnd r)
    {K : Act → World → Prop} {Q : Exit → Act → World → Prop}
    (hK : ∀ (act₁ : Act) (w' : World) (μ' : Mu) (cv : Value), SR w0 μ' σ' w' → Ext μ σ μ' σ' → RAct μ' n a' (act₁.put o.dst cv) → R μ' v cv → (act₁.tmps = act.tmps) → K (act₁.put o.dst cv) w') : o.wpIn (FR r) 0 P act w K Q := by
  refine ⟨fun f _ => trivial, ?_⟩
  show o.uponIn (FR r) 0 P act K Q ((o.semAt r act.eval).run P w)
  unfold stepA at hs
  have hop := fun nx σ₁ he => opA_ok (P := P) hpt h ha.op (o := o) (nx := nx) (σ' := σ₁) he
  have hsem : ∀ nx σ₁, opA pt (evalA a.tmps) o σ = some (nx, σ₁) → (∀ fn cap args, nx ≠ .defer fn cap args) → o.semAt r act.eval = execOp act.eval o := by
    intro nx σ₁ he hnd
    apply Oper.semAt_eq
    intro c hc
    unfold opA at he
    rw [hc] at he
    simp only [oDefer] at he
    split at he
    · split at he
      · cases he; exact hnd _ _ _ rfl
      · cases he
    · cases he
  split at hs
  · rename_i v₁ σ₁ he
    rw [hsem _ _ he (by intros; simp)]
    obtain ⟨cv, w', μ', h1, h2, h3, h4⟩ := hop _ _ he
    split at hs
    · rename_i a₁ hp
      cases hs
      rw [h1]
      exact hK act w' μ' cv h2 h3 (putA_ok (ha.mono h3.le) hp h4) h4 rfl
    · cases hs
  · rename_i σ₁ he
    rw [hsem _ _ he (by intros; simp)]
    obtain ⟨w', μ', h1, h2, h3⟩ := hop _ _ he
    split at hs
    · rename_i a₁ hp
      cases hs
      rw [h1]
      exact hK act w' μ' undef h2 h3 (putA_ok (ha.mono h3.le) hp R_undef) R_undef rfl
    · cases hs
  · rename_i c σ₁ he
    rw [hsem _ _ he (by intros; simp)]
    have hc := hop _ _ he
    obtain ⟨e0, hc⟩ := hc
    subst e0
    split at hs
    · rename_i v₁ σ₂ hcl
      split at hs
      · rename_i a₁ hp
        cases hs
        have fin : ∀ cv w' μ', SR w0 μ' σ' w' → Ext μ σ₁ μ' σ' → R μ' v cv → K (act.put o.dst cv) w' :=
          fun cv w' μ' h1 h2 h3 => hK act w' μ' cv h1 h2 (putA_ok (ha.mono h2.le) hp h3) h3 rfl
        cases hf : c.fn with
        | func f =>
          rw [hf] at hc
          obtain ⟨cargs, h1, h2⟩ := hc
          have := hcall c σ₁ v σ' hcl w0 μ w h cargs h1
          rw [hf] at this
          rw [h2]
          rcases this with ⟨h3, h4⟩ | ⟨_, cv, w', μ', h3, h4, h5, h6⟩
          · rw [h3]
            refine ⟨fun hd => by simp [FR, Fence.wide] at hd, (calls_round r h4).mono ?_⟩
            rintro e w' ⟨μ', cv, rfl, h5, h6, h7⟩
            exact fin cv w' μ' h5 h6 h7
          · rw [h3]
            exact fin cv w' μ' h4 h5 h6
        | yield l =>
          rw [hf] at hc
          obtain ⟨p, cargs, hp', h1, h2⟩ := hc
          have := hcall c σ₁ v σ' hcl w0 μ w h cargs h1
          rw [hf] at this
          obtain ⟨f, tmps, assign, body, h3, h4⟩ := this p hp'
          rw [h2, h3]
          refine ⟨fun hd => by simp [FR, Fence.wide] at hd, (round_round r h4).mono ?_⟩
          rintro e w' ⟨μ', cv, rfl, h5, h6, h7⟩
          exact fin cv w' μ' h5 h6 h7
        | method m => rw [hf] at hc; exact hc.elim
        | methodOf t m => rw [hf] at hc; exact hc.elim
        | via t p f b => rw [hf] at hc; exact hc.elim
      · cases hs
    · cases hs
  · rename_i fn cap args σ₁ he
    obtain ⟨e0, f, ccap, cargs, e1, h1, h2, h3⟩ := hop _ _ he
    subst e0; subst e1
    split at hs
    · simp only [RRound] at hr
      subst hr
      split at hs
      · rename_i a₁ hp
        cases hs
        show o.uponIn (FR none) 0 P act K Q ((execOp act.eval o).run P w)
        rw [h3]
        have ha2 : RAct μ n { a with defers := .call (.func f) cap args :: a.defers } { act with defers := { target := .fn (.func f) ccap.toArray, args := cargs.toArray } :: act.defers } :=
          ⟨ha.tmps, .call h1 h2 ha.defers⟩
        exact hK { act with defers := { target := .fn (.func f) ccap.toArray, args := cargs.toArray } :: act.defers } w μ undef h (Ext.refl _ _) (putA_ok ha2 hp R_undef) R_undef rfl
      · cases hs
    · cases hs
  · cases hs

theorem seq_ok (all : List Oper) {w0 : W0} {Q : Exit → Act → World → Prop} {a' : AAct} {σ' : St} : ∀ (l pre : List Oper) {μ : Mu} {σ : St} {w : World} {a : AAct} {act : Act}, all = pre ++ l →
    seqA call pt n rnd all l a σ = some (a', σ') → SR w0 μ σ w → RAct μ n a act → RRound μ rnd r →
    (∀ act' w' μ', SR w0 μ' σ' w' → Ext μ σ μ' σ' → RAct μ' n a' act' → Q .normal act' w') →
    wpOpsIn (FR r) 0 P all.toArray Q (List.range' pre.length l.length) act w := by
  intro l
  induction l with
  | nil =>
    intro pre μ σ w a act _ hs h ha _ hQ
    rw [seqA_nil] at hs; cases hs
    exact hQ act w μ h (Ext.refl _ _) ha
  | cons o os ih =>
    intro pre μ σ w a act hall hs h ha hr hQ
    rw [seqA_cons] at hs
    have hget : all.toArray[pre.length]? = some o := by simp [hall]
    have hall' : all = (pre ++ [o]) ++ os := by simp [hall]
    have hrange : List.range' pre.length (o :: os).length = pre.length :: List.range' (pre ++ [o]).length os.length := by simp [List.range'_succ]
    rw [hrange]
    simp only [wpOpsIn, hget]
    unfold seqStep at hs
    split at hs
    · rename_i hw
      rw [if_pos (wanted_ok ha hw)]
      split at hs
      · rename_i v a₁ σ₁ hst
        refine step_ok hcall hpt hst h ha hr (Q := Q) (fun act₁ w' μ' cv h1 h2 h3 _ _ => ?_)
        exact ih (pre ++ [o]) hall' hs h1 h3 (by
          cases rnd with
          | none => exact hr
          | some l => obtain ⟨p, hp, e⟩ := hr; exact ⟨p, h2.le _ _ hp, e⟩) (fun act' w'' μ'' k1 k2 k3 => hQ act' w'' μ'' k1 (h2.trans k2) k3)
      · cases hs
    · rename_i hw
      have := wanted_ok ha hw
      rw [this]
      simp only [Bool.false_eq_true, if_false]
      refine ⟨fun f _ => trivial, ?_⟩
      split at hs
      · rename_i a₁ hp
        exact ih (pre ++ [o]) hall' hs h (putA_ok ha hp R_undef) hr hQ
      · cases hs
    · cases hs

end
end Go.AI

/- Soundness, part 14: what an operation looks at; operations without effects. -/
namespace Go.AI
variable {P : Program} {pt : PT} {w0 : W0} {μ : Mu} {σ : St} {w : World}

theorem operands_congr {ρ ρ' : Operand → Option V} : ∀ {l : List Operand}, (∀ x ∈ l, ρ x = ρ' x) → operands ρ l = operands ρ' l
  | [], _ => rfl
  | x :: xs, h => by
    simp only [operands, h x (List.mem_cons_self ..), operands_congr (fun y hy => h y (List.mem_cons_of_mem _ hy))]

theorem parts_congr {ρ ρ' : Operand → Option V} : ∀ {l : List (Nat × Operand)}, (∀ x ∈ l.map (·.2), ρ x = ρ' x) → parts ρ l = parts ρ' l
  | [], _ => rfl
  | (i, x) :: xs, h => by
    have h1 : ρ x = ρ' x := h x (by simp)
    simp only [parts, h1, parts_congr (l := xs) (fun y hy => h y (by simp only [List.map_cons, List.mem_cons]; exact .inr hy))]

theorem optOperand_congr {ρ ρ' : Operand → Option V} {o : Option Operand} (h : ∀ x ∈ o, ρ x = ρ' x) : optOperand ρ o = optOperand ρ' o := by
  cases o with
  | none => rfl
  | some x => simp only [optOperand, h x rfl]

theorem opA_congr {ρ ρ' : Operand → Option V} (o : Oper) (σ : St) (h : ∀ x ∈ o.op.operands, ρ x = ρ' x) : opA pt ρ o σ = opA pt ρ' o σ := by
  obtain ⟨dst, op, type, pos, after, guard⟩ := o
  cases op with
  | build t ps => simp [Op.operands] at h; simp only [opA, oBuild, parts_congr (l := ps.toList) (ρ := ρ) (ρ' := ρ') (fun x hx => by
      obtain ⟨p, hp, rfl⟩ := List.mem_map.1 hx
      exact h _ p.1 (by simpa using hp))]
  | buildSlice t n ps => simp [Op.operands] at h; simp only [opA, oBuildSlice, parts_congr (l := ps.toList) (ρ := ρ) (ρ' := ρ') (fun x hx => by
      obtain ⟨p, hp, rfl⟩ := List.mem_map.1 hx
      exact h _ p.1 (by simpa using hp))]
  | makeFunc fn first captured =>
    simp [Op.operands] at h
    simp only [opA, oMakeFunc, operands_congr (l := first.toList) (ρ := ρ) (ρ' := ρ') (fun x hx => h x (.inl (by simpa using hx))), operands_congr (l := captured.toList) (ρ := ρ) (ρ' := ρ') (fun x hx => h x (.inr (by simpa using hx)))]
  | makeMap t r =>
    cases r with
    | none => rfl
    | some x => simp [Op.operands] at h; simp only [opA, oMakeMap, h]
  | slice t x lo hi mx =>
    simp only [Op.operands] at h
    have h1 : ρ x = ρ' x := h x (by simp)
    have h2 : optOperand ρ lo = optOperand ρ' lo := optOperand_congr fun y hy => h y (by cases hy; simp)
    have h3 : optOperand ρ hi = optOperand ρ' hi := optOperand_congr fun y hy => h y (by cases hy; simp)
    have h4 : optOperand ρ mx = optOperand ρ' mx := optOperand_congr fun y hy => h y (by cases hy; simp)
    simp only [opA, oSlice, h1, h2, h3, h4]
  | call c =>
    simp only [Op.operands, Call.operands] at h
    have h1 : operands ρ c.args.toList = operands ρ' c.args.toList := operands_congr fun x hx => h x (by
      have : x ∈ c.args := by simpa using hx
      simp only [Array.mem_append]
      exact .inr this)
    obtain ⟨callee, args, argTypes⟩ := c
    simp only [opA, oCall, h1]
    cases callee with
    | value f => simp only [oCallV, h f (by simp)]
    | builtin b => rfl
    | invoke x m => rfl
  | defer c =>
    simp only [Op.operands, Call.operands] at h
    have h1 : operands ρ c.args.toList = operands ρ' c.args.toList := operands_congr fun x hx => h x (by
      have : x ∈ c.args := by simpa using hx
      simp only [Array.mem_append]
      exact .inr this)
    obtain ⟨callee, args, argTypes⟩ := c
    simp only [opA, oDefer, h1]
    cases callee with
    | value f =>
      have hf : ρ f = ρ' f := h f (by simp)
      cases operands ρ' args.toList <;> simp only [hf]
    | builtin b => cases operands ρ' args.toList <;> rfl
    | invoke x m => cases operands ρ' args.toList <;> rfl
  | _ =>
    simp [Op.operands] at h
    simp only [opA, oPick, oAlloc, oBox, oLoad, oStore, oNilCheck, oBin, oUn, oConv, oIface, oMakeSlice, oFieldAddr, oField, oIndexAddr, oIndex, oLookup, oUpdate, oMapEntry, oEntryStore, oRange, oNext, oAssert, oExtract, w1, w2, w3, h]

theorem calleeKind_two (c : Callee) : calleeKind c = .read ∨ calleeKind c = .effect := by
  unfold calleeKind; split <;> simp

theorem rV_any {σ σ' : St} {r : Option V} {nx : ANext} (h : rV σ r = some (nx, σ')) : σ' = σ ∧ ∀ σ₁, rV σ₁ r = some (nx, σ₁) := by
  cases r with
  | none => cases h
  | some x => cases h; exact ⟨rfl, fun _ => rfl⟩

theorem pure_any {ρ : Operand → Option V} {o : Oper} {σ σ' : St} {nx : ANext} (hk : opKind o = .pure) (he : opA pt ρ o σ = some (nx, σ')) :
    σ' = σ ∧ ∀ σ₁, opA pt ρ o σ₁ = some (nx, σ₁) := by
  obtain ⟨dst, op, type, pos, after, guard⟩ := o
  cases op
  case call c =>
    simp only [opKind] at hk
    rcases calleeKind_two c.callee with e | e <;> rw [e] at hk <;> cases hk
  all_goals (first | (simp only [opKind] at hk; cases hk; done) | skip)
  all_goals simp only [opA] at he ⊢
  case move => exact rV_any he
  case assign => exact rV_any he
  case pick c a b =>
    unfold oPick at he ⊢
    split at he
    · exact rV_any he
    · exact rV_any he
    · cases he
  case build =>
    unfold oBuild at he ⊢
    split at he
    · exact rV_any he
    · cases he
  case nilCheck =>
    unfold oNilCheck at he ⊢
    split at he <;> first | cases he | skip
    all_goals (exact ⟨rfl, fun _ => rfl⟩)
  case makeInterface =>
    unfold oIface at he ⊢
    split at he
    · split at he
      · cases he
      · cases he
        exact ⟨rfl, fun _ => rfl⟩
    · cases he
  case makeFunc =>
    unfold oMakeFunc at he ⊢
    split at he
    · cases he; exact ⟨rfl, fun _ => rfl⟩
    · cases he
  all_goals
    simp only [oBin, oUn, oFieldAddr, oField, oIndexAddr, oIndex, oAssert, oExtract, w1, w2] at he ⊢
    repeat' (split at he)
    all_goals first | cases he | skip
    all_goals exact rV_any he
end Go.AI

/- Soundness, part 15: operations without effects, done late. -/
namespace Go.AI
variable {P : Program} {pt : PT} {w0 : W0} {μ : Mu} {σ : St} {w : World}

theorem rV_same {σ' : St} {r : Option V} {nx : ANext} (h : rV σ r = some (nx, σ')) : σ' = σ := (rV_any h).1

theorem convA_same {src dst : TypeId} {x v : V} {σ' : St} (he : convA pt src dst x σ = some (v, σ')) (hn : σ'.next = σ.next) : σ' = σ := by
  unfold convA at he
  split at he
  · cases he; rfl
  · cases he; rfl
  · split at he
    · cases he; simp at hn
    · cases he
  · unfold convStr at he
    repeat' (split at he)
    all_goals first | (cases he; done) | (cases he; rfl)
  · cases he

theorem builtin_same {b : Builtin} {ts : Array TypeId} {args : List V} {nx : ANext} {σ' : St} (hk : calleeKind (.builtin b) = .read) (he : builtinA pt b ts args σ = some (nx, σ')) : σ' = σ := by
  unfold builtinA at he
  split at he <;> first | (simp [calleeKind] at hk; done) | skip
  all_goals (repeat' (split at he))
  all_goals first | (cases he; done) | (cases he; rfl)

theorem read_same {ρ : Operand → Option V} {o : Oper} {σ' : St} {v : V} (hk : opKind o = .read) (he : opA pt ρ o σ = some (.val v, σ')) (hn : σ'.next = σ.next) : σ' = σ := by
  obtain ⟨dst, op, type, pos, after, guard⟩ := o
  cases op
  case call c =>
    simp only [opKind] at hk
    simp only [opA, oCall] at he
    split at he
    · split at he
      · rename_i b hb; rw [hb] at hk; exact builtin_same hk he
      · rename_i f hf; rw [hf] at hk; simp [calleeKind] at hk
      · cases he
    · cases he
  all_goals (first | (simp only [opKind] at hk; cases hk; done) | skip)
  all_goals simp only [opA] at he
  case load =>
    obtain ⟨a, _, h2⟩ := w1_ok he
    exact rV_same h2
  case convert =>
    obtain ⟨a, _, h2⟩ := w1_ok he
    obtain ⟨r, h3, h4⟩ := rVS_ok h2
    exact convA_same h3 hn
  case lookup =>
    obtain ⟨a, b, _, _, h2⟩ := w2_ok he
    exact rV_same h2
  case slice =>
    unfold oSlice at he
    split at he
    · exact rV_same he
    · cases he

theorem alloc_heap (h : T AObj) (n : Nat) (o : AObj) : St.alloc ⟨h, n⟩ o = ⟨h.set n o, n + 1⟩ := rfl

theorem make_any {ρ : Operand → Option V} {o : Oper} {σ' : St} {nx : ANext} (hk : opKind o = .make) (he : opA pt ρ o σ = some (nx, σ')) :
    ∃ obj v, nx = .val v ∧ σ' = σ.alloc obj ∧ ∀ h : T AObj, opA pt ρ o ⟨h, σ.next⟩ = some (.val v, St.alloc ⟨h, σ.next⟩ obj) := by
  obtain ⟨dst, op, type, pos, after, guard⟩ := o
  cases op
  case call c =>
    simp only [opKind] at hk
    rcases calleeKind_two c.callee with e | e <;> rw [e] at hk <;> cases hk
  all_goals (first | (simp only [opKind] at hk; cases hk; done) | skip)
  all_goals simp only [opA] at he ⊢
  case alloc =>
    unfold oAlloc at he ⊢
    split at he
    · cases he; exact ⟨_, _, rfl, rfl, fun _ => rfl⟩
    · cases he
  case box =>
    unfold oBox w1 at he ⊢
    split at he
    · cases he; exact ⟨_, _, rfl, rfl, fun _ => rfl⟩
    · cases he
  case buildSlice =>
    unfold oBuildSlice buildSliceA at he ⊢
    split at he
    · simp only [rVS] at he
      split at he
      · rename_i x hx
        split at hx
        · split at hx
          · split at hx
            · cases hx; cases he
              exact ⟨_, _, rfl, rfl, fun _ => by simp [*, rVS]⟩
            · cases hx
          · cases hx
        · cases hx
      · cases he
    · cases he
  case makeSlice =>
    unfold oMakeSlice w2 makeSliceA at he ⊢
    split at he
    · split at he
      · simp only [rVS] at he
        split at he
        · rename_i x hx
          split at hx
          · split at hx
            · split at hx
              · split at hx
                · cases hx; cases he
                  exact ⟨_, _, rfl, rfl, fun _ => by simp [*, rVS]⟩
                · cases hx
              · cases hx
            · cases hx
          · cases hx
        · cases he
      · cases he
    · cases he

theorem alloc_inj {σ : St} {a b : AObj} (h : σ.alloc a = σ.alloc b) : a = b := by
  have h1 : (σ.alloc a).get σ.next = some a := by rw [St.get_alloc, if_pos rfl]
  rw [h, St.get_alloc, if_pos rfl] at h1
  exact (Option.some.inj h1).symm

theorem make_at (hpt : pt.Ok P) (hb : w0.may w.heap.size) {ρ : Operand → Option V} {cρ : Operand → Value} (hρ : ROp μ ρ cρ) {o : Oper} {v : V} {a : AObj} (hk : opKind o = .make)
    (he : opA pt ρ o σ = some (.val v, σ.alloc a)) :
    ∃ cv O p, (execOp cρ o).run P w = .ok (.value cv) { w with heap := w.heap.push O } ∧ p.blk = w.heap.size ∧ ∀ μ', μ.le μ' → μ' σ.next = some p → RObj w0 μ' p a O ∧ R μ' v cv := by
  have fin : ∀ {s : Sem Value} {vf : Nat → V} {a' : AObj}, Makes P w0 μ w s vf a' → v = vf σ.next → a = a' → 
      ∃ cv O p, (do pure (Next.value (← s)) : Sem Next).run P w = .ok (.value cv) { w with heap := w.heap.push O } ∧ p.blk = w.heap.size ∧ ∀ μ', μ.le μ' → μ' σ.next = some p → RObj w0 μ' p a O ∧ R μ' v cv := by
    intro s vf a' hm e1 e2
    obtain ⟨cv, O, p, h1, h2, h3⟩ := hm
    subst e1; subst e2
    exact ⟨cv, O, p, by simp only [Sem.run_bind, h1, Result.andThen_ok, Sem.run_pure], h2, fun μ' h4 h5 => h3 _ μ' h4 h5⟩
  obtain ⟨dst, op, type, pos, after, guard⟩ := o
  cases op
  case call c =>
    simp only [opKind] at hk
    rcases calleeKind_two c.callee with e | e <;> rw [e] at hk <;> cases hk
  all_goals (first | (simp only [opKind] at hk; cases hk; done) | skip)
  all_goals simp only [opA] at he
  all_goals simp only [execOp]
  case alloc =>
    unfold oAlloc at he
    split at he
    · rename_i z hz
      have he := Option.some.inj he
      injection he with h1 h2
      injection h1 with h1
      exact fin (alloc_makes hpt hb hz) h1.symm (alloc_inj h2).symm
    · cases he
  case box =>
    obtain ⟨x, h1, h2⟩ := w1_ok he
    have he := Option.some.inj h2
    injection he with h3 h4
    injection h3 with h3
    exact fin (box_makes hb (hρ _ _ h1)) h3.symm (alloc_inj h4).symm
  case buildSlice =>
    unfold oBuildSlice at he
    split at he
    · rename_i l hl
      obtain ⟨u, h1, h2⟩ := rVS_ok he
      cases h2
      have hps := parts_ok hρ _ _ hl
      obtain ⟨vf, a', h3, h4, h5⟩ := buildSlice_makes (P := P) (w0 := w0) (w := w) hpt hb h1 (cps := _) (by simpa using hps)
      rw [arr_map]
      exact fin h3 h4 (alloc_inj h5)
    · cases he
  case makeSlice =>
    obtain ⟨x, y, h1, h2, h3⟩ := w2_ok he
    obtain ⟨u, h4, h5⟩ := rVS_ok h3
    cases h5
    obtain ⟨vf, a', h6, h7, h8⟩ := makeSlice_makes (P := P) (w0 := w0) (w := w) hpt hb h4 (hρ _ _ h1) (hρ _ _ h2)
    exact fin h6 h7 (alloc_inj h8)

/-- An abstract block that has no place yet. -/
theorem SR.grow (h : SR w0 μ σ w) (a : AObj) : SR w0 μ (σ.alloc a) w where
  below := h.below
  lt := fun b p hp => ⟨Nat.lt_succ_of_lt (h.lt b p hp).1, (h.lt b p hp).2⟩
  out := fun b hb => by
    simp at hb
    rw [St.get_alloc, if_neg (by omega)]
    exact h.out b (by omega)
  obj := fun b p c hp hc => by
    have := (h.lt b p hp).1
    rw [St.get_alloc, if_neg (by omega)] at hc
    exact h.obj b p c hp hc
  inj := fun b c p q x y hp hq hx hy => by
    have h1 := (h.lt b p hp).1
    have h2 := (h.lt c q hq).1
    rw [St.get_alloc, if_neg (by omega)] at hx hy
    exact h.inj b c p q x y hp hq hx hy

theorem Ext.grow (μ : Mu) (σ : St) (a : AObj) : Ext μ σ μ (σ.alloc a) :=
  ⟨Mu.le_refl μ, by simp, fun b hb hn => ⟨hn, by rw [St.get_alloc, if_neg (by omega)]⟩⟩

/-- A block without a place gets one. -/
theorem SR.late (h : SR w0 μ σ w) {b : Nat} {a : AObj} {O : Obj} {p : Loc} (hn : μ b = none) (hlt : b < σ.next) (hg : σ.get b = some a) (hp : p.blk = w.heap.size) (hR : RObj w0 (μ.add b p) p a O) :
    SR w0 (μ.add b p) σ { w with heap := w.heap.push O } := by
  have hle := μ.le_add p hn
  refine { below := ?_, lt := ?_, out := h.out, obj := ?_, inj := ?_ }
  · have := h.below.size
    refine ⟨h.below.os, h.below.tape, h.below.output, by simp; omega, fun k hk hf => ?_⟩
    simp only []
    rw [← h.below.block k hk hf, Array.getElem?_push_lt (by omega)]
    exact (Array.getElem?_eq_getElem (by omega)).symm
  · intro c q hq
    unfold Mu.add at hq; split at hq
    · subst_vars; simp at hq; subst hq; simp [hp, hlt]
    · have := h.lt c q hq; simp; omega
  · intro c q d hq hd
    unfold Mu.add at hq
    split at hq
    · subst_vars
      rw [hg] at hd
      simp at hd hq; subst hd; subst hq
      exact ⟨O, by simp [hp], hR⟩
    · obtain ⟨o, ho, hr⟩ := h.obj c q d hq hd
      refine ⟨o, ?_, RObj_mono hle hr⟩
      have hlt := (h.lt c q hq).2
      simp only []
      rw [Array.getElem?_push_lt hlt]
      rw [Array.getElem?_eq_getElem hlt] at ho; exact ho
  · intro c d q r x y hq hr hx hy hro hne
    unfold Mu.add at hq hr
    split at hq
    · subst_vars
      simp at hq; subst hq
      rw [if_neg (fun e => hne e.symm)] at hr
      have := (h.lt d r hr).2
      omega
    · have h1 := (h.lt c q hq).2
      split at hr
      · subst_vars
        simp at hr; subst hr
        omega
      · exact h.inj c d q r x y hq hr hx hy hro hne

/-! ### Congruence of one step -/

noncomputable def putT (dst : Option Tmp) (v : V) (t : T V) : T V := match dst with | some d => t.set d v | none => t

theorem putA_inv {n : Nat} {a a' : AAct} {dst : Option Tmp} {v : V} (h : putA n a dst v = some a') : a' = { tmps := putT dst v a.tmps, defers := a.defers } ∧ ∀ d, dst = some d → d < n := by
  unfold putA at h
  split at h
  · cases h; exact ⟨rfl, fun d e => by cases e⟩
  · split at h
    · rename_i d hb
      cases h
      exact ⟨rfl, fun e he => by cases he; exact Nat.blt_eq.mp hb⟩
    · cases h

theorem putA_of {n : Nat} {a : AAct} {dst : Option Tmp} {v : V} (h : ∀ d, dst = some d → d < n) : putA n a dst v = some { tmps := putT dst v a.tmps, defers := a.defers } := by
  unfold putA
  cases dst with
  | none => rfl
  | some d =>
    have : Nat.blt d n = true := Nat.blt_eq.mpr (h d rfl)
    simp only [this]
    rfl

theorem stepA_congr {call : ACall → St → Option (AEnd × St)} {n : Nat} {rnd : Option Nat} {o : Oper} {tm tm' : T V} {ds : List ADefer} {σ' : St} {v : V} {a' : AAct}
    (h : ∀ x ∈ o.op.operands, evalA tm x = evalA tm' x) (hs : stepA call pt n rnd o { tmps := tm, defers := ds } σ = some (v, a', σ')) :
    stepA call pt n rnd o { tmps := tm', defers := ds } σ = some (v, { tmps := putT o.dst v tm', defers := a'.defers }, σ') ∧ a'.tmps = putT o.dst v tm ∧ ∀ d, o.dst = some d → d < n := by
  unfold stepA at hs ⊢
  simp only [] at hs ⊢
  rw [← opA_congr o σ h]
  split at hs
  · split at hs
    · rename_i a₁ hp
      cases hs
      obtain ⟨rfl, h2⟩ := putA_inv hp
      exact ⟨by simp only [putA_of h2], rfl, h2⟩
    · cases hs
  · split at hs
    · rename_i a₁ hp
      cases hs
      obtain ⟨rfl, h2⟩ := putA_inv hp
      exact ⟨by simp only [putA_of h2], rfl, h2⟩
    · cases hs
  · split at hs
    ·
      split at hs
      · rename_i a₁ hp
        cases hs
        obtain ⟨rfl, h2⟩ := putA_inv hp
        exact ⟨by simp only [putA_of h2], rfl, h2⟩
      · cases hs
    · cases hs
  · split at hs
    · split at hs
      · rename_i a₁ hp
        cases hs
        obtain ⟨rfl, h2⟩ := putA_inv hp
        exact ⟨by simp only [putA_of h2], rfl, h2⟩
      · cases hs
    · cases hs
  · cases hs

mutual
theorem sameV_eq : ∀ (x y : V), sameV x y = true → x = y
  | x, y, h => by
    unfold sameV at h
    split at h
    · split at h <;> first | rfl | cases h
    · simp only [Bool.and_eq_true, decide_eq_true_eq, zeq_eq] at h; obtain ⟨rfl, rfl⟩ := h; rfl
    · simp only [Bool.and_eq_true, decide_eq_true_eq, Nat.beq_eq] at h; obtain ⟨rfl, rfl⟩ := h; rfl
    · simp only [Bool.and_eq_true, decide_eq_true_eq, Nat.beq_eq] at h; obtain ⟨⟨rfl, rfl⟩, rfl⟩ := h; rfl
    · rw [eqBytes_iff, beq_iff_eq] at h; rw [h]
    · rfl
    · simp only [Bool.and_eq_true, Nat.beq_eq] at h; obtain ⟨rfl, rfl⟩ := h; rfl
    · rfl
    · simp only [Bool.and_eq_true, Nat.beq_eq] at h
      obtain ⟨⟨⟨⟨rfl, rfl⟩, rfl⟩, rfl⟩, h⟩ := h
      split at h
      · rw [Nat.beq_eq] at h; rw [h]
      · rw [Nat.beq_eq] at h; rw [h]
      · cases h
    · rfl
    · rw [Nat.beq_eq] at h; rw [h]
    · simp only [Bool.and_eq_true, decide_eq_true_eq] at h
      obtain ⟨⟨rfl, h1⟩, h2⟩ := h
      rw [sameVs_eq _ _ h1, sameVs_eq _ _ h2]
    · rfl
    · simp only [Bool.and_eq_true, Nat.beq_eq] at h
      obtain ⟨rfl, h1⟩ := h
      rw [sameV_eq _ _ h1]
    · rfl
    · rw [sameVs_eq _ _ h]
    · rw [sameVs_eq _ _ h]
    · cases h
theorem sameVs_eq : ∀ (x y : List V), sameVs x y = true → x = y
  | [], [], _ => rfl
  | [], _ :: _, h => by simp [sameVs] at h
  | _ :: _, [], h => by simp [sameVs] at h
  | x :: xs, y :: ys, h => by
    simp only [sameVs, Bool.and_eq_true] at h
    rw [sameV_eq _ _ h.1, sameVs_eq _ _ h.2]
end

end Go.AI

/- Soundness, part 16: the plan of a region whose order is drawn: what lies ahead of what; what the temporaries hold. -/
namespace Go.AI

theorem bit_eq (m i : Nat) : bit m i = m.testBit i := by
  unfold bit Nat.testBit
  show Nat.beq ((m >>> i) &&& 1) 1 = (1 &&& (m >>> i) != 0)
  rw [Nat.and_comm]
  have h : 1 &&& (m >>> i) = (m >>> i) % 2 := by rw [Nat.and_comm, Nat.and_one_is_mod]
  rw [h]
  rcases Nat.mod_two_eq_zero_or_one (m >>> i) with e | e <;> rw [e] <;> rfl

theorem edges_bit (acc : List Nat) (i : Nat) : ∀ (es : List Edge) (m : Nat), (es.foldl (fun m e => edgeOn m acc e) m).testBit i = true →
    m.testBit i = true ∨ ∃ e ∈ es, Region.binds .any e = true ∧ (e.on = i ∨ ∃ k, nth acc e.on = some k ∧ k.testBit i = true)
  | [], m, h => .inl h
  | e :: es, m, h => by
    rcases edges_bit acc i es _ h with h1 | ⟨e', he, h2⟩
    · change (edgeOn m acc e).testBit i = true at h1
      unfold edgeOn at h1
      split at h1
      · rename_i hb
        change (m ||| (2 ^ e.on ||| _)).testBit i = true at h1
        rw [Nat.testBit_or, Nat.testBit_or, Nat.testBit_two_pow] at h1
        simp only [Bool.or_eq_true, decide_eq_true_eq] at h1
        rcases h1 with h1 | h1 | h1
        · exact .inl h1
        · exact .inr ⟨e, List.mem_cons_self .., hb, .inl h1⟩
        · split at h1
          · rename_i k hk
            exact .inr ⟨e, List.mem_cons_self .., hb, .inr ⟨k, hk, h1⟩⟩
          · simp at h1
      · exact .inl h1
    · exact .inr ⟨e', List.mem_cons_of_mem _ he, h2⟩

theorem edges_bit_of (acc : List Nat) (i : Nat) : ∀ (es : List Edge) (m : Nat), (m.testBit i = true ∨ ∃ e ∈ es, Region.binds .any e = true ∧ e.on = i) →
    (es.foldl (fun m e => edgeOn m acc e) m).testBit i = true
  | [], m, h => by
    rcases h with h | ⟨e, he, _⟩
    · exact h
    · cases he
  | e :: es, m, h => by
    refine edges_bit_of acc i es _ ?_
    rcases h with h | ⟨e', he, h1, h2⟩
    · left
      change (edgeOn m acc e).testBit i = true
      unfold edgeOn
      split
      · change (m ||| _).testBit i = true
        rw [Nat.testBit_or, h]; rfl
      · exact h
    · rcases List.mem_cons.1 he with rfl | he
      · left
        change (edgeOn m acc e').testBit i = true
        unfold edgeOn
        simp only [h1]
        change (m ||| (2 ^ e'.on ||| _)).testBit i = true
        rw [Nat.testBit_or, Nat.testBit_or, Nat.testBit_two_pow]
        simp [h2]
      · exact .inr ⟨e', he, h1, h2⟩

/-- The mask of operation j, of the masks ahead of it. -/
def maskOf (acc : List Nat) (o : Oper) : Nat := o.after.toList.foldl (fun m e => edgeOn m acc e) 0

theorem masksFrom_get : ∀ (os : List Oper) (acc : List Nat) (j m : Nat), (masksFrom os acc)[j]? = some m →
    (j < acc.length ∧ acc[j]? = some m) ∨ ∃ o, os[j - acc.length]? = some o ∧ acc.length ≤ j ∧ m = maskOf ((masksFrom os acc).take j) o
  | [], acc, j, m, h => by
    simp only [masksFrom] at h
    have : j < acc.length := by
      rcases Nat.lt_or_ge j acc.length with h1 | h1
      · exact h1
      · rw [List.getElem?_eq_none h1] at h; cases h
    exact .inl ⟨this, h⟩
  | o :: os, acc, j, m, h => by
    simp only [masksFrom] at h ⊢
    rcases masksFrom_get os _ j m h with ⟨h1, h2⟩ | ⟨o', h1, h2, h3⟩
    · rcases Nat.lt_or_ge j acc.length with h4 | h4
      · rw [List.getElem?_append_left h4] at h2
        exact .inl ⟨h4, h2⟩
      · have : j = acc.length := by simp at h1; omega
        subst this
        rw [List.getElem?_append_right (Nat.le_refl _)] at h2
        simp at h2
        refine .inr ⟨o, by simp, Nat.le_refl _, ?_⟩
        rw [← h2]
        have : (masksFrom os (acc ++ [o.after.toList.foldl (fun m e => edgeOn m acc e) 0])).take acc.length = acc := by
          have pre : ∀ (os : List Oper) (acc : List Nat), acc <+: masksFrom os acc := by
            intro os
            induction os with
            | nil => intro acc; exact List.prefix_refl _
            | cons o os ih => intro acc; exact (List.prefix_append _ _).trans (ih _)
          obtain ⟨t, ht⟩ := (List.prefix_append acc _).trans (pre os (acc ++ [o.after.toList.foldl (fun m e => edgeOn m acc e) 0]))
          rw [← ht]; simp
        rw [this]; simp [maskOf]
    · simp at h1 h2
      exact .inr ⟨o', by
        have : j - acc.length = (j - (acc.length + 1)) + 1 := by omega
        rw [this]; simpa using h1, by omega, h3⟩

theorem nth_take {α : Type} {l : List α} {n i : Nat} {x : α} (h : nth (l.take n) i = some x) : nth l i = some x := by
  rw [nth_eq] at h ⊢
  rw [List.getElem?_take] at h
  split at h
  · exact h
  · cases h

theorem bef_edge {ops : List Oper} {i j : Nat} (h : befB (masks ops) i j = true) :
    ∃ o, ops[j]? = some o ∧ ∃ e ∈ o.after, Region.binds .any e = true ∧ (e.on = i ∨ befB (masks ops) i e.on = true) := by
  unfold befB at h
  split at h
  · rename_i m hm
    rw [nth_eq] at hm
    rcases masksFrom_get ops [] j m hm with ⟨h1, _⟩ | ⟨o, h1, _, h3⟩
    · simp at h1
    · refine ⟨o, by simpa using h1, ?_⟩
      rw [bit_eq, h3] at h
      rcases edges_bit _ i _ _ h with h4 | ⟨e, he, hb, h4⟩
      · simp at h4
      · refine ⟨e, by simpa using he, hb, ?_⟩
        rcases h4 with h4 | ⟨k, hk, h4⟩
        · exact .inl h4
        · right
          unfold befB
          have := nth_take hk
          unfold masks
          rw [this]
          simp only [bit_eq, h4]
  · cases h

theorem edge_bef {ops : List Oper} {j : Nat} {o : Oper} (ho : ops[j]? = some o) {e : Edge} (he : e ∈ o.after) (hb : Region.binds .any e = true) : befB (masks ops) e.on j = true := by
  have hlen : ∀ (os : List Oper) (acc : List Nat), (masksFrom os acc).length = acc.length + os.length := by
    intro os
    induction os with
    | nil => intro acc; rfl
    | cons o os ih => intro acc; simp only [masksFrom]; rw [ih]; simp; omega
  have hj : j < ops.length := by
    rcases Nat.lt_or_ge j ops.length with h | h
    · exact h
    · rw [List.getElem?_eq_none h] at ho; cases ho
  have hl : j < (masksFrom ops []).length := by rw [hlen]; simpa using hj
  unfold befB
  rw [nth_eq]
  change (match (masksFrom ops [])[j]? with | some m => bit m e.on | none => false) = true
  rw [List.getElem?_eq_getElem hl]
  simp only []
  rcases masksFrom_get ops [] j _ (List.getElem?_eq_getElem hl) with ⟨h1, _⟩ | ⟨o', h1, _, h3⟩
  · simp at h1
  · have : o' = o := by
      simp at h1
      rw [ho] at h1; exact (Option.some.inj h1).symm
    subst this
    rw [h3, bit_eq]
    exact edges_bit_of _ _ _ _ (.inr ⟨e, by simpa using he, hb, rfl⟩)

theorem memN_iff {d : Nat} : ∀ {l : List Nat}, memN d l = true ↔ d ∈ l
  | [] => by simp [memN]
  | x :: xs => by
    unfold memN
    split
    · rename_i h; rw [Nat.beq_eq] at h; simp [h]
    · rename_i h
      have hne : ¬ x = d := fun e => by subst e; simp at h
      rw [memN_iff]; simp [eq_comm (a := d) (b := x), hne]

/-- What a plan gives. -/
structure Plan (ops : List Oper) (c : List Nat) : Prop where
  /-- the order keeps what lies ahead -/
  order : ∀ c1 j c2, c = c1 ++ j :: c2 → ∀ i ∈ c1, i ≠ j ∧ befB (masks ops) j i = false
  /-- all that stands behind an effect waits for it -/
  effect : ∀ c1 j c2, c = c1 ++ j :: c2 → ∀ o, ops[j]? = some o → isEffect o = true → ∀ i ∈ c2, befB (masks ops) j i = true
  back : ∀ i o, ops[i]? = some o → ∀ e ∈ o.after, Region.binds .any e = true → e.on < i
  all : ∀ i, i < ops.length → i ∈ c
  inside : ∀ i ∈ c, i < ops.length
  tmp : ∀ i o d, ops[i]? = some o → o.dst = some d → ∀ j oj, ops[j]? = some oj → i ≠ j → (d ∈ looksAt ops oj ∨ oj.dst = some d) → befB (masks ops) i j = true ∨ befB (masks ops) j i = true

theorem orderOk_ok {ops : List Oper} {ms : List Nat} : ∀ (js pre : List Nat), orderOk ops ms pre js = true → ∀ c1 j c2, js = c1 ++ j :: c2 →
    (∃ o, ops[j]? = some o ∧ (isEffect o = true → ∀ i ∈ c2, befB ms j i = true)) ∧ (∀ i, i ∈ pre ∨ i ∈ c1 → i ≠ j ∧ befB ms j i = false)
  | [], _, _, c1, j, c2, e => by simp at e
  | k :: js, pre, h, c1, j, c2, e => by
    unfold orderOk at h
    split at h
    · cases h
    · rename_i o ho
      rw [nth_eq] at ho
      split at h
      · cases h
      · rename_i hall
        have hpre : ∀ i ∈ pre, i ≠ k ∧ befB ms k i = false := fun i hi => by
          have := List.all_eq_true.1 hall i hi
          split at this
          · cases this
          · rename_i hb
            refine ⟨fun e => by subst e; simp at hb, by simpa using this⟩
        have hrest : orderOk ops ms (k :: pre) js = true ∧ (isEffect o = true → ∀ i ∈ js, befB ms k i = true) := by
          split at h
          · rename_i he; exact ⟨h, fun e => by rw [he] at e; cases e⟩
          · split at h
            · rename_i hb; exact ⟨h, fun _ i hi => List.all_eq_true.1 hb i hi⟩
            · cases h
        cases c1 with
        | nil =>
          simp at e
          obtain ⟨rfl, rfl⟩ := e
          exact ⟨⟨o, ho, hrest.2⟩, fun i hi => by
            rcases hi with hi | hi
            · exact hpre i hi
            · cases hi⟩
        | cons x c1 =>
          simp at e
          obtain ⟨rfl, e⟩ := e
          obtain ⟨h1, h2⟩ := orderOk_ok js (k :: pre) hrest.1 c1 j c2 e
          refine ⟨h1, fun i hi => h2 i ?_⟩
          rcases hi with hi | hi
          · exact .inl (List.mem_cons_of_mem _ hi)
          · rcases List.mem_cons.1 hi with rfl | hi
            · exact .inl (List.mem_cons_self ..)
            · exact .inr hi

theorem tmpOk_ok {ops : List Oper} {ms : List Nat} {i d : Nat} : ∀ (os : List Oper) (j0 : Nat), tmpOk ops ms i d os j0 = true → ∀ k o, os[k]? = some o → i ≠ j0 + k →
    (d ∈ looksAt ops o ∨ o.dst = some d) → befB ms i (j0 + k) = true ∨ befB ms (j0 + k) i = true
  | [], _, _, k, o, h, _, _ => by simp at h
  | o :: os, j0, h, k, o', hk, hne, hd => by
    unfold tmpOk at h
    split at h
    · rename_i hc
      cases k with
      | zero =>
        simp at hk; subst hk
        split at hc
        · rename_i hb; rw [Nat.beq_eq] at hb; exact absurd hb hne
        · split at hc
          · rename_i hm
            exfalso
            split at hm
            · cases hm
            · rename_i hl
              rcases hd with hd | hd
              · rw [memN_iff.2 hd] at hl; cases hl
              · rw [hd] at hm; simp at hm
          · split at hc
            · rename_i hb; exact .inl hb
            · exact .inr hc
      | succ k =>
        have := tmpOk_ok os (j0 + 1) h k o' (by simpa using hk) (by omega) hd
        have e : j0 + 1 + k = j0 + (k + 1) := by omega
        rw [e] at this; exact this
    · cases h

theorem opsOk_ok {ops : List Oper} {ms c : List Nat} : ∀ (os : List Oper) (i0 : Nat), opsOk ops ms c os i0 = true → ∀ k o, os[k]? = some o →
    (∀ e ∈ o.after, Region.binds .any e = true → e.on < i0 + k) ∧ (i0 + k) ∈ c ∧ (∀ d, o.dst = some d → tmpOk ops ms (i0 + k) d ops 0 = true)
  | [], _, _, k, o, h => by simp at h
  | o :: os, i0, h, k, o', hk => by
    unfold opsOk at h
    split at h
    · cases h
    · rename_i he
      split at h
      · cases h
      · rename_i hm
        split at h
        · rename_i ht
          cases k with
          | zero =>
            simp at hk; subst hk
            refine ⟨fun e hin hb => ?_, memN_iff.1 hm, fun d hd => by rw [hd] at ht; exact ht⟩
            have := List.all_eq_true.1 he e (by simpa using hin)
            rw [hb] at this
            exact Nat.blt_eq.mp this
          | succ k =>
            have := opsOk_ok os (i0 + 1) h k o' (by simpa using hk)
            have e : i0 + 1 + k = i0 + (k + 1) := by omega
            rw [e] at this; exact this
        · cases h

theorem planOk_ok {ops : List Oper} {c : List Nat} (h : planOk ops (masks ops) c = true) : Plan ops c := by
  unfold planOk at h
  split at h
  · rename_i ho
    have h1 := orderOk_ok c [] ho
    have h2 := opsOk_ok ops 0 h
    refine ⟨fun c1 j c2 e i hi => (h1 c1 j c2 e).2 i (.inr hi), fun c1 j c2 e o hj he => ?_, fun i o hi => ?_, fun i hi => ?_, fun i hi => ?_, fun i o d hi hd j oj hj hne hl => ?_⟩
    · obtain ⟨⟨o', h3, h4⟩, _⟩ := h1 c1 j c2 e
      rw [hj] at h3; cases h3
      exact h4 he
    · have := (h2 i o hi).1; simpa using this
    · have := (h2 i ops[i] (by simp [hi])).2.1; simpa using this
    · obtain ⟨c1, c2, e⟩ := List.append_of_mem hi
      obtain ⟨⟨o', h3, _⟩, _⟩ := h1 c1 i c2 e
      rcases Nat.lt_or_ge i ops.length with h4 | h4
      · exact h4
      · rw [List.getElem?_eq_none h4] at h3; cases h3
    · have := (h2 i o hi).2.2 d hd
      have := tmpOk_ok ops 0 this j oj hj (by omega) hl
      simpa using this
  · cases h

/-! ### What the temporaries hold, some operations done -/

noncomputable def play (D : Nat → Bool) : T V → List Ent → T V
  | t, [] => t
  | t, e :: es => play D (match D e.i with | true => putT e.o.dst e.v t | false => t) es

theorem play_append (D : Nat → Bool) : ∀ (H1 H2 : List Ent) (t : T V), play D t (H1 ++ H2) = play D (play D t H1) H2
  | [], _, _ => rfl
  | e :: es, H2, t => by simp only [List.cons_append, play]; exact play_append D es H2 _

theorem putT_get {dst : Option Tmp} {v : V} {t : T V} {d : Nat} : (putT dst v t).get d = if dst = some d then some v else t.get d := by
  unfold putT
  split
  · rename_i e
    rw [T.get_set]
    by_cases h : d = e
    · subst h; simp
    · rw [if_neg h, if_neg (fun x => h (by cases x; rfl))]
  · simp

theorem play_congr {D D' : Nat → Bool} {d : Nat} : ∀ {H : List Ent} {t t' : T V}, (∀ x ∈ H, x.o.dst = some d → D x.i = D' x.i) → t.get d = t'.get d → (play D t H).get d = (play D' t' H).get d
  | [], _, _, _, h => h
  | e :: es, t, t', h, ht => by
    simp only [play]
    refine play_congr (fun x hx => h x (List.mem_cons_of_mem _ hx)) ?_
    by_cases hd : e.o.dst = some d
    · rw [h e (List.mem_cons_self ..) hd]
      split
      · rw [putT_get, putT_get, if_pos hd, if_pos hd]
      · exact ht
    · have : ∀ (b : Bool) (t : T V), (match b with | true => putT e.o.dst e.v t | false => t).get d = t.get d := fun b t => by
        cases b
        · rfl
        · simp only [putT_get, if_neg hd]
      rw [this, this]; exact ht

theorem play_skip {D : Nat → Bool} {d : Nat} {H : List Ent} {t : T V} (h : ∀ x ∈ H, x.o.dst = some d → D x.i = false) : (play D t H).get d = t.get d := by
  induction H generalizing t with
  | nil => rfl
  | cons e es ih =>
    simp only [play]
    rw [ih (fun x hx => h x (List.mem_cons_of_mem _ hx))]
    split
    · rename_i hD
      rw [putT_get]
      split
      · rename_i hd
        rw [h e (List.mem_cons_self ..) hd] at hD; cases hD
      · rfl
    · rfl

end Go.AI
