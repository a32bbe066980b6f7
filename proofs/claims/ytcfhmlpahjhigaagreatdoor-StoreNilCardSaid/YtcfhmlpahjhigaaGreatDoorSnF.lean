/- For every text and every list of entries, StoreNil answers true. Conditions: none beyond the given statement's own. -/
import Derived.Test.YtcfhmlpahjhigaaGreatDoorSnT
import Derived.Test.YtcfhmlpahjhigaaGreatDoorSnFA
import Derived.Test.YtcfhmlpahjhigaaGreatDoorSnFB
import Derived.Test.YtcfhmlpahjhigaaGreatDoorSnFC
import Derived.Test.YtcfhmlpahjhigaaGreatDoorSnFD
import Derived.Test.YtcfhmlpahjhigaaGreatDoorSnFK
import Derived.Test.YtcfhmlpahjhigaaGreatDoorSnFM
import Derived.Test.YtcfhmlpahjhigaaGreatDoorSnFN
import Derived.Test.YtcfhmlpahjhigaaGreatDoorSnFW
import Derived.Test.YtcfhmlpahjhigaaGreatDoorCards
import Derived.Test.YtcfhmlpahjhigaaGreatDoorTie
import Derived.OpenShut
import Derived.ShutString
import Derived.ChangeMaps5
import Derived.LaidMore
import Derived.Lay
import Derived.SevenTiedAt
import Derived.Stop.Joined
import Derived.Carry
namespace Go.Proofs.YtcfhmlpahjhigaaGreatDoor.storeNil
open Go.ChangeShapes Go.WideShapes Go.ChangeAt Go.RowKit Go.AI Go.ChangeMaps
theorem fact0 : (Rows.storeNilRow.wf (OpenSpec.ofChange Rows.storeNilSpec)) = true := by kernel_rfl
theorem fact3 : (Tryz.f3.params.all (Tryz.prog.readableRec ·)) = true := by kernel_rfl
theorem fact4 : (namedTie Tryz.prog Rows.storeNilRow.named Rows.storeNilSpec.vars) = true := by kernel_rfl
theorem fact5 : ((Rows.storeNilRow.stops == [])) = true := by kernel_rfl
theorem fact6 : ((Tryz.prog.stops == [])) = true := by kernel_rfl
theorem fact7 : ((Rows.storeNilRow.knobs == [])) = true := by kernel_rfl
theorem fact8 : ((Tryz.prog.stopKnobs == [])) = true := by kernel_rfl
theorem fact13 : ((Rows.storeNilRow.maps == (Tryz.f3.params.toList ++ Rows.storeNilSpec.plain.varTypes Tryz.prog).any (Tryz.prog.mapsRec ·))) = true := by kernel_rfl
theorem fact14 : ((Rows.storeNilRow.ifaces == (Tryz.f3.params.toList ++ Rows.storeNilSpec.plain.varTypes Tryz.prog).any (Tryz.prog.ifacesRec ·))) = true := by kernel_rfl
theorem fact15 : ((Rows.storeNilRow.mapsOut == Tryz.prog.mapsAmong Tryz.f3.resultTypes.toList)) = true := by kernel_rfl
theorem fact16 : ((Rows.storeNilRow.loops == (Tryz.f3.params.toList ++ Rows.storeNilSpec.plain.varTypes Tryz.prog).any (Tryz.prog.loopsFrom ·))) = true := by kernel_rfl
theorem fact17 : ((Rows.storeNilRow.wideKeys == (Tryz.f3.params.toList ++ Rows.storeNilSpec.plain.varTypes Tryz.prog ++ Tryz.f3.resultTypes.toList).any (Tryz.prog.wideKeysFrom ·))) = true := by kernel_rfl
theorem fact18 : (Rows.storeNilSpec.vars.all (Tryz.prog.varReadable ·)) = true := by kernel_rfl
theorem fact19 : (Tryz.f3.resultTypes.all (fun t => Tryz.prog.readableRec t && decide (t < Tryz.prog.types.size))) = true := by kernel_rfl
theorem fact20 : ((Rows.storeNilRow.ifacesOut == Tryz.f3.resultTypes.toList.any (Tryz.prog.ifacesRec ·))) = true := by kernel_rfl
theorem fact21 : ((Rows.storeNilRow.loopsOut == Tryz.f3.resultTypes.toList.any (Tryz.prog.loopsFrom ·))) = true := by kernel_rfl
theorem fact23 : (Rows.storeNilRow.shortTexts.isNone) = true := by kernel_rfl
theorem fact28 : ((Rows.storeNilRow.kinds == (if Rows.storeNilRow.domain.isEmpty then [] else Tryz.f3.params.toList.map fun t => match Tryz.prog.underlying t with | some (.int k) => some k | _ => none))) = true := by kernel_rfl
theorem fact29 : ((Rows.storeNilRow.pinned == Rows.storeNilRow.pinnedBy)) = true := by kernel_rfl
theorem fact30 : ((Rows.storeNilRow.veiled == (Tryz.f3.params.toList ++ Rows.storeNilSpec.plain.varTypes Tryz.prog ++ Tryz.f3.resultTypes.toList).any (Tryz.prog.veiledRec ·))) = true := by kernel_rfl
theorem fact31 : (Rows.storeNilRow.veiledFits Tryz.prog Tryz.f3.params.toList (Tryz.f3.params.toList ++ Rows.storeNilSpec.plain.varTypes Tryz.prog ++ Tryz.f3.resultTypes.toList)) = true := by kernel_rfl

theorem and2 {a b : Bool} (ha : a = true) (hb : b = true) : (a && b) = true := by rw [ha, hb]; rfl
set_option maxRecDepth 100000 in
theorem closed : joinedFacts Tryz.prog 3 Tryz.f3 Rows.storeNilSpec Rows.storeNilRow = true := by
  unfold joinedFacts
  exact (and2 (and2 (and2 (and2 (and2 (and2 (and2 (and2 (and2 (and2 (and2 (and2 (and2 (and2 (and2 (and2 (and2 (and2 (and2 (and2 (and2 (and2 (and2 (and2 (and2 (and2 (and2 (and2 (and2 (and2 (and2 fact0 fact1) fact2) fact3) fact4) fact5) fact6) fact7) fact8) fact9) fact10) fact11) fact12) fact13) fact14) fact15) fact16) fact17) fact18) fact19) fact20) fact21) fact22) fact23) fact24) fact25) fact26) fact27) fact28) fact29) fact30) fact31)
theorem laidOut : laidOutB Tryz.prog = true := fact1
theorem readable22 : Tryz.prog.readableRec 22 = true := by kernel_rfl
theorem row22 : 22 < Tryz.prog.types.size := of_decide_eq_true (by kernel_rfl)
theorem own : ownKnob Tryz.prog.godebug = none := by kernel_rfl

set_option maxRecDepth 100000 in
theorem fit {base : Nat} {W : World} {v : Value} (h : Value.okWide Tryz.prog W .any base 22 v) : Sn.Fit W v := by
  have h' : Cell.okWide Tryz.prog W .any base 22 v := by
    unfold Value.okWide at h
    rw [Tryz.underlying22] at h
    exact h
  unfold Cell.okWide at h'
  rw [Tryz.underlying22] at h'
  obtain ⟨a, n, c, rfl⟩ := okWide_slice Tryz.underlying22 h
  simp only at h'
  unfold Cell.ok at h'
  rw [Tryz.underlying22] at h'
  match a, n, c, h' with
  | none, 0, 0, _ => exact .inl rfl
  | some a, n, c, h' =>
    obtain ⟨h1, _, _, h3, row, cells, h4, _⟩ := h'
    refine .inr ⟨a, n, c, rfl, h1, h3, ?_⟩
    unfold World.shape? at h4
    split at h4
    · rename_i hh
      exact (Array.getElem?_eq_some_iff.1 hh).1
    · cases h4

set_option maxRecDepth 100000 in
theorem lifted (os : Os) (started : os.Started) (H : Type) (enc : TypeId × Value → H) :
    ReturnsInHanded {} Tryz.checked os 3 .any (fun w args => (Rows.storeNilSpec.pre enc Tryz.prog Tryz.f3 Rows.storeNilRow.domain false w args ∧ laidMetH Tryz.prog Rows.storeNilRow.laid w) ∧ sizedMet enc Tryz.prog Tryz.f3 (OpenSpec.ofChange Rows.storeNilSpec) false w args)
      (Rows.storeNilSpec.post enc Tryz.prog Tryz.f3 false true false false) := by
  refine returnsInHanded_of_change_and (C := Tryz.checked) (X := fun w _ => laidMetH Tryz.prog Rows.storeNilRow.laid w) (fun _ _ _ hh h => h.of_heap hh) own started (by kernel_rfl) Tryz.func3
    (ChangeSpec.witness_shaped (enc := enc) (C := Tryz.checked) (os := os) (X := fun w _ => laidMetH Tryz.prog Rows.storeNilRow.laid w) false (World.laidAll Tryz.prog os Rows.storeNilRow.laid) #[.string ByteArray.empty, .slice none 0 0] 8 (World.laidAll_os _ _ _)
      (World.shaped_of_ZipB (by kernel_rfl) (by kernel_rfl)) (by kernel_rfl) (by kernel_rfl) (by kernel_rfl)
      (by rw [MakeChecks.laidMetH_plain _ _ _ (by kernel_rfl)]; exact laidMet_laidAll _ (by kernel_rfl) (by kernel_rfl))) ?_
  intro W base args ds gs before hval0 hW _ _ _ _
  have hval : ∀ (j : Nat) t v, Tryz.f3.params[j]? = some t → args[j]? = some v → Value.okWide Tryz.prog W .any base t v := hval0
  have hW' := hW
  obtain ⟨p, q, hA0, hV, rfl, hfz, hnd⟩ := hW
  have hA : DataW.TrodAll enc Tryz.prog W 0 (fun _ => true) true Tryz.f3.params.toList args.toList ds p := hA0
  rw [Tryz.params3] at hA hval
  obtain ⟨v0, v1, d0, d1, p0, p1, rfl, rfl, rfl, h0, h1⟩ := trodAll_two hA
  obtain ⟨rfl, rfl⟩ := trodVars_none hV
  obtain ⟨s0, rfl, rfl, rfl, w0⟩ := open_string Tryz.underlying9 (hval 0 9 v0 rfl rfl) h0
  have hf := fit (hval 1 22 v1 rfl rfl)
  clear hA0 hval0
  simp only [List.append_nil] at hW'
  refine (Sn.walk s0 v1 W hf).mono fun e W' ⟨he, hg⟩ => ?_
  subst he
  refine ⟨_, rfl, post_of_kept (pa := [] ++ p1) (pv := []) hW' (fun _ _ _ => trodAll_mk1 (shut_bool Tryz.underlying4 _)) (fun sp hsp => ?_) (fun _ _ => rfl) (by simp) hg (ok_one (by kernel_rfl) rfl (okWide_bool_mk Tryz.underlying4 _))⟩
  refine trodAll_mk2 (shut_string Tryz.underlying9 w0) ?_
  exact WideElems.Trod_stays laidOut readable22 row22 h1 (fun x hx => hg.same (hW'.lt x (by simpa using hx))) (fun x hx => hsp x (by simpa using hx))

theorem over : Rows.StoreNilSaid :=
  OpenClaim.holds_of_wide 3 Tryz.f3 rfl rfl rfl rfl rfl rfl rfl ⟨rfl, rfl, rfl, rfl, rfl⟩ rfl rfl rfl rfl rfl (by kernel_rfl) Tryz.func3 closed
    (of_decide_eq_true (by kernel_rfl)) (by unfold Func.isWrapper; first | (rw [if_pos (by decide +kernel)]; kernel_rfl) | (rw [if_neg (by decide +kernel)]; exact ⟨rfl, rfl⟩))
    (fun os started H enc _ => lifted os started H enc)

/-- StoreNil, tied. -/
theorem card_holds : Rows.StoreNilCardSaid :=
  Claim7.holds_tied_plain_at .later [] [.data, .pinned] true (true, "6ddb8998ae9207ce6c86d1cd77ccedf32a44a9122b51a26b9e6636a9fadd827a") false over (fun _ h => by cases h) cWf (fun _ h => by cases h) storeNil_row_tie rfl ⟨rfl, rfl⟩ cMain rfl
    (fun f fn hf hfn => by
      obtain rfl : f = 3 := Option.some.inj (cNamed.symm.trans hf) |>.symm
      obtain rfl : fn = Tryz.f3 := (Option.some.inj (Tryz.func3.symm.trans hfn)).symm
      exact ⟨cLooks, fun j t ht => by
        rw [Tryz.params3] at ht
        have hm : t ∈ [9, 22] := by simpa using Array.mem_of_getElem? ht
        exact (show Tryz.prog.wantsStandIn t = false by simpa using List.all_eq_true.1 cAll t hm)⟩)
    cGoes
end Go.Proofs.YtcfhmlpahjhigaaGreatDoor.storeNil
