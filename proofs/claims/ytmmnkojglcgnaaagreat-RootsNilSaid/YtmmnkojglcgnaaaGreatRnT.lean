/- RootsNil's walk. -/
import Derived.Test.YtmmnkojglcgnaaaGreatRnS
import Derived.Test.YtmmnkojglcgnaaaGreatRnI
import Derived.Test.YtmmnkojglcgnaaaGreatRnM
import Derived.Test.YtmmnkojglcgnaaaGreatRnR0
import Derived.Test.YtmmnkojglcgnaaaGreatRnR1
import Derived.Test.YtmmnkojglcgnaaaGreatRnR2
import Derived.Test.YtmmnkojglcgnaaaGreatRnR3
import Derived.Test.YtmmnkojglcgnaaaGreatRnR4
import Derived.Test.YtmmnkojglcgnaaaGreatRnR5
import Derived.Test.YtmmnkojglcgnaaaGreatRnR6
import Derived.Test.YtmmnkojglcgnaaaGreatRnR7
import Derived.Test.YtmmnkojglcgnaaaGreatRnR8
import Derived.Test.YtmmnkojglcgnaaaGreatRnR9
import Derived.Test.YtmmnkojglcgnaaaGreatRnR10
import Derived.Test.YtmmnkojglcgnaaaGreatRnR11
import Derived.Test.YtmmnkojglcgnaaaGreatRnR12
import Derived.Test.YtmmnkojglcgnaaaGreatRnR13
namespace Go.AI.Rn
open Go.Proofs Go.RowKit
theorem il_ok : ∀ x ∈ il, SumOk Tryz.prog x.1 x.2.says :=
  (itab_step pt_ok base_ok (itab_step pt_ok base_ok (itab_step pt_ok base_ok (itab_step pt_ok base_ok (itab_step pt_ok base_ok (itab_step pt_ok base_ok (itab_step pt_ok base_ok itab_nil ifine0 irunA0 irunB0) ifine1 irunA1 irunB1) ifine2 irunA2 irunB2) ifine3 irunA3 irunB3) ifine4 irunA4 irunB4) ifine5 irunA5 irunB5) ifine6 irunA6 irunB6)
theorem l_ok0 : ∀ x ∈ l0, SumOk Tryz.prog x.1 x.2.says := tab_nil
theorem l_ok1 : ∀ x ∈ l1, SumOk Tryz.prog x.1 x.2.says := tab_step pt_ok base_ok il_ok l_ok0 run0
theorem l_ok2 : ∀ x ∈ l2, SumOk Tryz.prog x.1 x.2.says := tab_step pt_ok base_ok il_ok l_ok1 run1
theorem l_ok3 : ∀ x ∈ l3, SumOk Tryz.prog x.1 x.2.says := tab_step pt_ok base_ok il_ok l_ok2 run2
theorem l_ok4 : ∀ x ∈ l4, SumOk Tryz.prog x.1 x.2.says := tab_step pt_ok base_ok il_ok l_ok3 run3
theorem l_ok5 : ∀ x ∈ l5, SumOk Tryz.prog x.1 x.2.says := tab_step pt_ok base_ok il_ok l_ok4 run4
theorem l_ok6 : ∀ x ∈ l6, SumOk Tryz.prog x.1 x.2.says := tab_step pt_ok base_ok il_ok l_ok5 run5
theorem l_ok7 : ∀ x ∈ l7, SumOk Tryz.prog x.1 x.2.says := tab_step pt_ok base_ok il_ok l_ok6 run6
theorem l_ok8 : ∀ x ∈ l8, SumOk Tryz.prog x.1 x.2.says := tab_step pt_ok base_ok il_ok l_ok7 run7
theorem l_ok9 : ∀ x ∈ l9, SumOk Tryz.prog x.1 x.2.says := tab_step pt_ok base_ok il_ok l_ok8 run8
theorem l_ok10 : ∀ x ∈ l10, SumOk Tryz.prog x.1 x.2.says := tab_step pt_ok base_ok il_ok l_ok9 run9
theorem l_ok11 : ∀ x ∈ l11, SumOk Tryz.prog x.1 x.2.says := tab_step pt_ok base_ok il_ok l_ok10 run10
theorem l_ok12 : ∀ x ∈ l12, SumOk Tryz.prog x.1 x.2.says := tab_step pt_ok base_ok il_ok l_ok11 run11
theorem l_ok13 : ∀ x ∈ l13, SumOk Tryz.prog x.1 x.2.says := tab_step pt_ok base_ok il_ok l_ok12 run12
theorem l_ok14 : ∀ x ∈ l14, SumOk Tryz.prog x.1 x.2.says := tab_step pt_ok base_ok il_ok l_ok13 run13
theorem l_ok15 : ∀ x ∈ l15, SumOk Tryz.prog x.1 x.2.says := tab_step pt_ok base_ok il_ok l_ok14 run14
theorem l_ok16 : ∀ x ∈ l16, SumOk Tryz.prog x.1 x.2.says := tab_step pt_ok base_ok il_ok l_ok15 run15
theorem l_ok17 : ∀ x ∈ l17, SumOk Tryz.prog x.1 x.2.says := tab_step pt_ok base_ok il_ok l_ok16 run16
theorem l_ok18 : ∀ x ∈ l18, SumOk Tryz.prog x.1 x.2.says := tab_step pt_ok base_ok il_ok l_ok17 run17
theorem l_ok19 : ∀ x ∈ l19, SumOk Tryz.prog x.1 x.2.says := tab_step pt_ok base_ok il_ok l_ok18 run18
theorem l_ok20 : ∀ x ∈ l20, SumOk Tryz.prog x.1 x.2.says := tab_step pt_ok base_ok il_ok l_ok19 run19
theorem l_ok21 : ∀ x ∈ l21, SumOk Tryz.prog x.1 x.2.says := tab_step pt_ok base_ok il_ok l_ok20 run20
theorem l_ok22 : ∀ x ∈ l22, SumOk Tryz.prog x.1 x.2.says := tab_step pt_ok base_ok il_ok l_ok21 run21
theorem l_ok23 : ∀ x ∈ l23, SumOk Tryz.prog x.1 x.2.says := tab_step pt_ok base_ok il_ok l_ok22 run22
theorem l_ok24 : ∀ x ∈ l24, SumOk Tryz.prog x.1 x.2.says := tab_step pt_ok base_ok il_ok l_ok23 run23
theorem l_ok25 : ∀ x ∈ l25, SumOk Tryz.prog x.1 x.2.says := tab_step pt_ok base_ok il_ok l_ok24 run24
theorem l_ok26 : ∀ x ∈ l26, SumOk Tryz.prog x.1 x.2.says := tab_step pt_ok base_ok il_ok l_ok25 run25
theorem l_ok27 : ∀ x ∈ l27, SumOk Tryz.prog x.1 x.2.says := tab_step pt_ok base_ok il_ok l_ok26 run26
theorem l_ok28 : ∀ x ∈ l28, SumOk Tryz.prog x.1 x.2.says := tab_step pt_ok base_ok il_ok l_ok27 run27

theorem walk (a b : ByteArray) (w : World) : Calls Tryz.prog 3 #[.string a, .string b] w fun e w' => e = .returned (.bool true) ∧ Below w.heap.size w w' := by
  obtain ⟨σ, h⟩ := retIs_ex (main a.data.toList b.data.toList)
  rw [callF_eq] at h
  have hr : RL mu0 [.str a.data.toList, .str b.data.toList] [.string a, .string b] := ⟨_, _, ⟨a, rfl, rfl⟩, ⟨_, _, ⟨b, rfl, rfl⟩, rfl, rfl⟩, rfl⟩
  refine (calls_of_run pt_ok (smWith_ok base_ok il_ok l_ok28) (by kernel_rfl) h hr w).mono ?_
  rintro e w' ⟨μ, cv, rfl, h1, h2⟩
  simp only [R] at h1
  subst h1
  exact ⟨rfl, h2⟩
end Go.AI.Rn
