/- base.Hex, walked once. -/
import Derived.Test.YtcfhmlpahjhigaaGreatDoorSnL
import Derived.WalkKit
import Derived.BigCall
import Derived.Test.YtcfhmlpahjhigaaGreatDoorZF
namespace Go.Proofs
open Go.RowKit

theorem Tryz.hexOf_append (a b : List UInt8) : AI.hexOf (a ++ b) = AI.hexOf a ++ AI.hexOf b := by
  induction a with
  | nil => rfl
  | cons x a ih => simp only [List.cons_append, AI.hexOf, ih]

theorem Tryz.hexOf_length (a : List UInt8) : (AI.hexOf a).length = 2 * a.length := by
  induction a with
  | nil => rfl
  | cons x a ih => simp only [AI.hexOf, List.length_cons, ih]; omega

theorem Tryz.hex_digit (d : Nat) (h : d < 16) (hp : d < (ByteArray.mk #[48, 49, 50, 51, 52, 53, 54, 55, 56, 57, 97, 98, 99, 100, 101, 102]).size) :
    ((ByteArray.mk #[48, 49, 50, 51, 52, 53, 54, 55, 56, 57, 97, 98, 99, 100, 101, 102])[d]'hp) = AI.hexDigit d := by
  have : d = 0 ∨ d = 1 ∨ d = 2 ∨ d = 3 ∨ d = 4 ∨ d = 5 ∨ d = 6 ∨ d = 7 ∨ d = 8 ∨ d = 9 ∨ d = 10 ∨ d = 11 ∨ d = 12 ∨ d = 13 ∨ d = 14 ∨ d = 15 := by omega
  rcases this with rfl | rfl | rfl | rfl | rfl | rfl | rfl | rfl | rfl | rfl | rfl | rfl | rfl | rfl | rfl | rfl <;> rfl

set_option maxHeartbeats 4000000 in
set_option maxRecDepth 1000000 in
theorem Tryz.hex_walk (blk off n c : Nat) (l : List UInt8) (w : World) (hblk : blk < w.heap.size) (hl : l.length = n) (hn : n ≤ 1000)
    (hc : ∀ j, j < n → w.cell? ⟨blk, off + j, none⟩ = some (.int .u8 (l.getD j 0).toNat)) :
    Calls Tryz.prog 128 #[.slice (some ⟨blk, off, none⟩) n c] w fun e w' => e = .returned (.string ⟨(AI.hexOf l).toArray⟩) ∧ Below w.heap.size w w' := by
  go_enter Tryz.func128, Tryz.ntmps128
  go_wp2
  go_loopw [5, 8] (fun v i wr => ∃ k : Nat, k ≤ n ∧ i = .int .i64 k ∧ Lib.IsBuilder 270 5 w.heap.size w.heap.size (Lib.byteCells (AI.hexOf (l.take k))) wr ∧ Below w.heap.size w wr) (fun _ i _ => n - (intOf i).toNat)
  case atStart =>
    refine ⟨0, Nat.zero_le _, rfl, ?_, (Below.refl _ w).alloc (Nat.le_refl _) _⟩
    exact Lib.fresh_isBuilder 270 5 w
  case round =>
    obtain ⟨k, hk, rfl, hI, hbw⟩ := hrel
    have hcx : k < n → wr.cell? ⟨blk, off + k, none⟩ = some (.int .u8 (l.getD k 0).toNat) := fun h => (hbw.cell (by exact hblk)).trans (hc k h)
    have hsz := hbw.size
    have hlen : (Lib.byteCells (AI.hexOf (l.take k))).length ≤ 2000 := by
      rw [Lib.byteCells_length, Tryz.hexOf_length, List.length_take]; omega
    by_cases hkn : k < n
    · have hcell := hcx hkn
      go_wp2_with (go_at_call 200; refine (Tryz.Builder_WriteByte w.heap.size w.heap.size _ _ _ hI (by omega) hsz).mono ?_)
      rintro e W1 ⟨rfl, h1, b1⟩
      have hsz1 : w.heap.size ≤ W1.heap.size := Nat.le_trans hsz b1.size
      go_wp2_with (go_at_call 200; refine (Tryz.Builder_WriteByte w.heap.size w.heap.size _ _ _ (Or.inr h1) (by simp only [List.length_append, List.length_singleton]; omega) hsz1).mono ?_)
      rintro e W2 ⟨rfl, h2, b2⟩
      go_wp2
      go_roundw
      case rel =>
        refine ⟨k + 1, by omega, by simp, ?_, (hbw.trans b1).trans b2⟩
        have hkl : k < l.length := by omega
        rw [List.take_succ_eq_append_getElem hkl, Tryz.hexOf_append, Lib.byteCells_append]
        have e1 : Lib.byteCells (AI.hexOf [l[k]]) = [.int .u8 (AI.hexDigit (l[k].toNat / 16)).toNat, .int .u8 (AI.hexDigit (l[k].toNat % 16)).toNat] := rfl
        rw [e1]
        have h16 : l[k].toNat / 16 < 16 := by have := l[k].toNat_lt; omega
        rw [Tryz.hex_digit _ h16, Tryz.hex_digit _ (Nat.mod_lt _ (by decide))] at h2
        rw [List.append_assoc] at h2
        exact Or.inr h2
      case measure =>
        simp only [intOf]
        omega
      all_goals
        exfalso
        have := l[k].toNat_lt
        omega
    · go_wp2_with (go_at_call 201; refine (Tryz.Builder_String_any w.heap.size w.heap.size _ _ hI hsz).mono ?_)
      rintro e W1 ⟨rfl, b1⟩
      go_wp2
      go_ret
      have : k = n := by omega
      subst this
      rw [← hl, List.take_length]
      exact ⟨rfl, hbw.trans b1⟩
end Go.Proofs
