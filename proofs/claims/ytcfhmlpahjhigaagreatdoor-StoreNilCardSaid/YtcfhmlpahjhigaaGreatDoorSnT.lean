/- StoreNil's walk. -/
import Derived.Test.YtcfhmlpahjhigaaGreatDoorSnS
import Derived.Test.YtcfhmlpahjhigaaGreatDoorSnI
import Derived.Test.YtcfhmlpahjhigaaGreatDoorSnM
import Derived.Test.YtcfhmlpahjhigaaGreatDoorSnR0
import Derived.Test.YtcfhmlpahjhigaaGreatDoorSnR1
import Derived.Test.YtcfhmlpahjhigaaGreatDoorSnR2
import Derived.Test.YtcfhmlpahjhigaaGreatDoorSnR3
import Derived.Test.YtcfhmlpahjhigaaGreatDoorSnR4
import Derived.Test.YtcfhmlpahjhigaaGreatDoorSnR5
import Derived.Test.YtcfhmlpahjhigaaGreatDoorSnR6
import Derived.Test.YtcfhmlpahjhigaaGreatDoorSnR7
import Derived.Test.YtcfhmlpahjhigaaGreatDoorSnR8
import Derived.Test.YtcfhmlpahjhigaaGreatDoorSnR9
import Derived.Test.YtcfhmlpahjhigaaGreatDoorSnR10
import Derived.Test.YtcfhmlpahjhigaaGreatDoorSnR11
import Derived.Test.YtcfhmlpahjhigaaGreatDoorSnR12
import Derived.Test.YtcfhmlpahjhigaaGreatDoorSnR13
import Derived.Test.YtcfhmlpahjhigaaGreatDoorSnR14
import Derived.Test.YtcfhmlpahjhigaaGreatDoorSnR15
import Derived.Test.YtcfhmlpahjhigaaGreatDoorSnR16
import Derived.Test.YtcfhmlpahjhigaaGreatDoorSnR17
import Derived.Test.YtcfhmlpahjhigaaGreatDoorSnR18
import Derived.Test.YtcfhmlpahjhigaaGreatDoorSnR19
import Derived.Test.YtcfhmlpahjhigaaGreatDoorSnR20
namespace Go.AI.Sn
open Go.Proofs Go.RowKit
theorem il_ok : ∀ x ∈ il, SumOk Tryz.prog x.1 x.2.says :=
  (itab_step pt_ok base_ok (itab_step pt_ok base_ok (itab_step pt_ok base_ok (itab_step pt_ok base_ok (itab_step pt_ok base_ok (itab_step pt_ok base_ok (itab_step pt_ok base_ok (itab_step pt_ok base_ok (itab_step pt_ok base_ok (itab_step pt_ok base_ok itab_nil ifine0 irunA0 irunB0) ifine1 irunA1 irunB1) ifine2 irunA2 irunB2) ifine3 irunA3 irunB3) ifine4 irunA4 irunB4) ifine5 irunA5 irunB5) ifine6 irunA6 irunB6) ifine7 irunA7 irunB7) ifine8 irunA8 irunB8) ifine9 irunA9 irunB9)
theorem l_ok0 : ∀ x ∈ l0, SumOk Tryz.prog x.1 x.2.says := tab_nil
theorem l_ok1 : ∀ x ∈ l1, SumOk Tryz.prog x.1 x.2.says := tab_step pt_ok base_ok il_ok l_ok0 run0
theorem l_ok2 : ∀ x ∈ l2, SumOk Tryz.prog x.1 x.2.says := tab_step pt_ok base_ok il_ok l_ok1 run1
theorem l_ok3 : ∀ x ∈ l3, SumOk Tryz.prog x.1 x.2.says := tab_step pt_ok base_ok il_ok l_ok2 run2
theorem l_ok4 : ∀ x ∈ l4, SumOk Tryz.prog x.1 x.2.says := tab_step pt_ok base_ok il_ok l_ok3 run3
theorem l_ok5 : ∀ x ∈ l5, SumOk Tryz.prog x.1 x.2.says := tab_step pt_ok base_ok il_ok l_ok4 run4
theorem l_ok6 : ∀ x ∈ l6, SumOk Tryz.prog x.1 x.2.says := tab_step pt_ok base_ok il_ok l_ok5 run5
theorem l_ok7 : ∀ x ∈ l7, SumOk Tryz.prog x.1 x.2.says := tab_step pt_ok base_ok il_ok l_ok6 run6
theorem l_ok8 : ∀ x ∈ l8, SumOk Tryz.prog x.1 x.2.says := tab_step pt_ok base_ok il_ok l_ok7 run7
theorem l_ok9 : ∀ x ∈ l9, SumOk Tryz.prog x.1 x.2.says := tab_step pt_ok base_ok il_ok l_ok8 run8
theorem l_ok10 : ∀ x ∈ l10, SumOk Tryz.prog x.1 x.2.says := tab_step pt_ok base_ok il_ok l_ok9 run9
theorem l_ok11 : ∀ x ∈ l11, SumOk Tryz.prog x.1 x.2.says := tab_step pt_ok base_ok il_ok l_ok10 run10
theorem l_ok12 : ∀ x ∈ l12, SumOk Tryz.prog x.1 x.2.says := tab_step pt_ok base_ok il_ok l_ok11 run11
theorem l_ok13 : ∀ x ∈ l13, SumOk Tryz.prog x.1 x.2.says := tab_step pt_ok base_ok il_ok l_ok12 run12
theorem l_ok14 : ∀ x ∈ l14, SumOk Tryz.prog x.1 x.2.says := tab_step pt_ok base_ok il_ok l_ok13 run13
theorem l_ok15 : ∀ x ∈ l15, SumOk Tryz.prog x.1 x.2.says := tab_step pt_ok base_ok il_ok l_ok14 run14
theorem l_ok16 : ∀ x ∈ l16, SumOk Tryz.prog x.1 x.2.says := tab_step pt_ok base_ok il_ok l_ok15 run15
theorem l_ok17 : ∀ x ∈ l17, SumOk Tryz.prog x.1 x.2.says := tab_step pt_ok base_ok il_ok l_ok16 run16
theorem l_ok18 : ∀ x ∈ l18, SumOk Tryz.prog x.1 x.2.says := tab_step pt_ok base_ok il_ok l_ok17 run17
theorem l_ok19 : ∀ x ∈ l19, SumOk Tryz.prog x.1 x.2.says := tab_step pt_ok base_ok il_ok l_ok18 run18
theorem l_ok20 : ∀ x ∈ l20, SumOk Tryz.prog x.1 x.2.says := tab_step pt_ok base_ok il_ok l_ok19 run19
theorem l_ok21 : ∀ x ∈ l21, SumOk Tryz.prog x.1 x.2.says := tab_step pt_ok base_ok il_ok l_ok20 run20
theorem l_ok22 : ∀ x ∈ l22, SumOk Tryz.prog x.1 x.2.says := tab_step pt_ok base_ok il_ok l_ok21 run21
theorem l_ok23 : ∀ x ∈ l23, SumOk Tryz.prog x.1 x.2.says := tab_step pt_ok base_ok il_ok l_ok22 run22
theorem l_ok24 : ∀ x ∈ l24, SumOk Tryz.prog x.1 x.2.says := tab_step pt_ok base_ok il_ok l_ok23 run23
theorem l_ok25 : ∀ x ∈ l25, SumOk Tryz.prog x.1 x.2.says := tab_step pt_ok base_ok il_ok l_ok24 run24
theorem l_ok26 : ∀ x ∈ l26, SumOk Tryz.prog x.1 x.2.says := tab_step pt_ok base_ok il_ok l_ok25 run25
theorem l_ok27 : ∀ x ∈ l27, SumOk Tryz.prog x.1 x.2.says := tab_step pt_ok base_ok il_ok l_ok26 run26
theorem l_ok28 : ∀ x ∈ l28, SumOk Tryz.prog x.1 x.2.says := tab_step pt_ok base_ok il_ok l_ok27 run27
theorem l_ok29 : ∀ x ∈ l29, SumOk Tryz.prog x.1 x.2.says := tab_step pt_ok base_ok il_ok l_ok28 run28
theorem l_ok30 : ∀ x ∈ l30, SumOk Tryz.prog x.1 x.2.says := tab_step pt_ok base_ok il_ok l_ok29 run29
theorem l_ok31 : ∀ x ∈ l31, SumOk Tryz.prog x.1 x.2.says := tab_step pt_ok base_ok il_ok l_ok30 run30
theorem l_ok32 : ∀ x ∈ l32, SumOk Tryz.prog x.1 x.2.says := tab_step pt_ok base_ok il_ok l_ok31 run31
theorem l_ok33 : ∀ x ∈ l33, SumOk Tryz.prog x.1 x.2.says := tab_step pt_ok base_ok il_ok l_ok32 run32
theorem l_ok34 : ∀ x ∈ l34, SumOk Tryz.prog x.1 x.2.says := tab_step pt_ok base_ok il_ok l_ok33 run33
theorem l_ok35 : ∀ x ∈ l35, SumOk Tryz.prog x.1 x.2.says := tab_step pt_ok base_ok il_ok l_ok34 run34
theorem l_ok36 : ∀ x ∈ l36, SumOk Tryz.prog x.1 x.2.says := tab_step pt_ok base_ok il_ok l_ok35 run35
theorem l_ok37 : ∀ x ∈ l37, SumOk Tryz.prog x.1 x.2.says := tab_step pt_ok base_ok il_ok l_ok36 run36
theorem l_ok38 : ∀ x ∈ l38, SumOk Tryz.prog x.1 x.2.says := tab_step pt_ok base_ok il_ok l_ok37 run37
theorem l_ok39 : ∀ x ∈ l39, SumOk Tryz.prog x.1 x.2.says := tab_step pt_ok base_ok il_ok l_ok38 run38
theorem l_ok40 : ∀ x ∈ l40, SumOk Tryz.prog x.1 x.2.says := tab_step pt_ok base_ok il_ok l_ok39 run39
theorem l_ok41 : ∀ x ∈ l41, SumOk Tryz.prog x.1 x.2.says := tab_step pt_ok base_ok il_ok l_ok40 run40
theorem l_ok42 : ∀ x ∈ l42, SumOk Tryz.prog x.1 x.2.says := tab_step pt_ok base_ok il_ok l_ok41 run41

/-- What the second argument may be. -/
def Fit (w : World) (v : Value) : Prop := v = .slice none 0 0 ∨ ∃ a n c, v = .slice (some a) n c ∧ n ≤ c ∧ a.spot = none ∧ a.block < w.heap.size

theorem walk (a : ByteArray) (v : Value) (w : World) (hv : Fit w v) : Calls Tryz.prog 3 #[.string a, v] w fun e w' => e = .returned (.bool true) ∧ Below w.heap.size w w' := by
  have fin : ∀ {e : Ending} {w' : World}, (∃ μ' cv, e = .returned cv ∧ R μ' (.bool true) cv ∧ Below w.heap.size w w') → e = .returned (.bool true) ∧ Below w.heap.size w w' := by
    rintro e w' ⟨μ, cv, rfl, h1, h2⟩
    simp only [R] at h1
    subst h1
    exact ⟨rfl, h2⟩
  rcases hv with rfl | ⟨q, n, c, rfl, hn, hs, hq⟩
  · obtain ⟨σ, h⟩ := retIs_ex (main1 a.data.toList)
    rw [callF_eq] at h
    have hr : RL mu0 [.str a.data.toList, .nilslice] [.string a, .slice none 0 0] := ⟨_, _, ⟨a, rfl, rfl⟩, ⟨_, _, rfl, rfl, rfl⟩, rfl⟩
    exact (calls_of_start pt_ok (smWith_ok base_ok il_ok l_ok42) (by kernel_rfl) (sr1 w) h hr).mono fun _ _ => fin
  · obtain ⟨σ, h⟩ := retIs_ex (main2 a.data.toList q.off n c)
    rw [callF_eq] at h
    obtain ⟨qb, qo, qs⟩ := q
    simp only at hs hq
    subst hs
    have hm : mu1 ⟨qb, 0, qo + c * 4⟩ 0 = some ⟨qb, 0, qo + c * 4⟩ := rfl
    have h1 : R (mu1 ⟨qb, 0, qo + c * 4⟩) (.slice 0 qo n (.exact c) 4) (.slice (some ⟨qb, qo, none⟩) n c) :=
      ⟨_, c, rfl, hn, rfl, fun _ => ⟨_, hm, by simp, by simp⟩, _, hm⟩
    have hr : RL (mu1 ⟨qb, 0, qo + c * 4⟩) [.str a.data.toList, .slice 0 qo n (.exact c) 4] [.string a, .slice (some ⟨qb, qo, none⟩) n c] := ⟨_, _, ⟨a, rfl, rfl⟩, ⟨_, _, h1, rfl, rfl⟩, rfl⟩
    exact (calls_of_start pt_ok (smWith_ok base_ok il_ok l_ok42) (by kernel_rfl) (sr1p w ⟨qb, 0, qo + c * 4⟩ hq) h hr).mono fun _ _ => fin
end Go.AI.Sn
