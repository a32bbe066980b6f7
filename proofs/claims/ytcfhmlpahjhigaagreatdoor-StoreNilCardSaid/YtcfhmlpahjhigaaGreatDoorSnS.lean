/- Functions of Go's library and of the program: what the tables say of them holds. -/
import Derived.Test.YtcfhmlpahjhigaaGreatDoorSnP
import Derived.Test.YtcfhmlpahjhigaaGreatDoorSnL
import Derived.Test.YtcfhmlpahjhigaaGreatDoorSnH
import Derived.Test.YtcfhmlpahjhigaaGreatDoorZF
namespace Go.AI.Sn
open Go.RowKit Go.Maps Go.Proofs
theorem pt_ok : pt.Ok Tryz.prog := ptOf_ok (by kernel_rfl) (by kernel_rfl) (by kernel_rfl)

theorem sorts (m : Nat) : AnyZ.SortsIn Tryz.prog Tryz.sorted44_ren Fence.wide m :=
  ⟨fun blk off cap ss W hH hblk hsz => callsIn_wide.2 (AnyM.slices_Sort_string Tryz.sort90 blk off cap ss W hH hblk hsz),
   fun p cap W => callsIn_wide.2 (AnyM.slices_Sort_string_none Tryz.sort90 p cap W)⟩

theorem sortsI (m : Nat) : AnyZI.SortsIn Tryz.prog Tryz.sorted98_ren Fence.wide m :=
  ⟨fun blk off cap ss W hH hblk hsz => callsIn_wide.2 (AnyM.slices_Sort_int Tryz.sort163 blk off cap ss W hH hblk hsz),
   fun p cap W => callsIn_wide.2 (AnyM.slices_Sort_int_none Tryz.sort163 p cap W)⟩

theorem keys_ok : SumOk Tryz.prog 84 (keysSum 145) :=
  keysSum_ok (tm := 121) (enters_of Tryz.func84 (by kernel_rfl) rfl) fun mb W => AnyZ.keys_in Tryz.keys84 Fence.wide 5 trivial rfl mb W

theorem keysI_ok : SumOk Tryz.prog 99 (keysSum 164) :=
  keysSum_ok (tm := 136) (enters_of Tryz.func99 (by kernel_rfl) rfl) fun mb W => AnyZI.keys_in Tryz.keys99 Fence.wide 5 trivial rfl mb W

theorem sorted_ok : SumOk Tryz.prog 44 (sortedSum 145) :=
  sortedSum_ok (kt := 9) (by kernel_rfl) (enters_of Tryz.func44 (by kernel_rfl) rfl) fun b nn D0 w Bm hlt hc hown hmax hbytes => by
    have hseq : SeqGives Fence.wide 2 Tryz.prog 145 #[.pointer (some ⟨Bm, 0, none⟩)] encStr (fun ss => ss.Perm (strKeys D0)) (Maps.size D0) w :=
      AnyZ.keys_gives (ρ := Tryz.keys84_ren) { Tryz.keys84 with } Fence.wide _ trivial rfl (by omega) Bm b nn D0 w hlt hc hown
    exact AnyZ.sorted_in Tryz.sorted44 Fence.wide 5 trivial trivial trivial trivial rfl (by omega) (sorts _) (enters_of Tryz.func90 (by kernel_rfl) rfl) 145 #[.pointer (some ⟨Bm, 0, none⟩)] trivial (enters_of Tryz.func145 (by kernel_rfl) rfl) _ _ hmax hbytes _ hseq

theorem sortedI_ok : SumOk Tryz.prog 98 (sortedIntSum 164) :=
  sortedIntSum_ok (kt := 3) (by kernel_rfl) (enters_of Tryz.func98 (by kernel_rfl) rfl) fun b nn D0 w Bm hlt hc hown hmax hbytes => by
    have hseq : SeqGives Fence.wide 2 Tryz.prog 164 #[.pointer (some ⟨Bm, 0, none⟩)] encZ (fun ss => ss.Perm (intKeys D0)) (Maps.size D0) w :=
      AnyZI.keys_gives (ρ := Tryz.keys99_ren) { Tryz.keys99 with } Fence.wide _ trivial rfl (by omega) Bm b nn D0 w hlt hc hown
    exact AnyZI.sorted_in Tryz.sorted98 Fence.wide 5 trivial trivial trivial trivial rfl (by omega) (sortsI _) (enters_of Tryz.func163 (by kernel_rfl) rfl) 164 #[.pointer (some ⟨Bm, 0, none⟩)] trivial (enters_of Tryz.func164 (by kernel_rfl) rfl) _ _ hmax hbytes _ hseq

theorem hex_ok : SumOk Tryz.prog 128 hexSum := hexSum_ok (enters_of Tryz.func128 (by kernel_rfl) rfl) Tryz.hex_walk
theorem join_ok : SumOk Tryz.prog 130 joinSum := joinSum_ok (enters_of Tryz.func130 (by kernel_rfl) rfl) Tryz.strings_Join

theorem over330_ok : SumOk Tryz.prog 330 overlapsSum := overlapsSum_ok pt_ok (tS := 95) (tR := 4) (e := 99) (n := 2) Tryz.func330 (by kernel_rfl) rfl (by kernel_rfl) (by kernel_rfl) (by kernel_rfl) (by kernel_rfl)
theorem over333_ok : SumOk Tryz.prog 333 overlapsSum := overlapsSum_ok pt_ok (tS := 32) (tR := 4) (e := 9) (n := 1) Tryz.func333 (by kernel_rfl) rfl (by kernel_rfl) (by kernel_rfl) (by kernel_rfl) (by kernel_rfl)
theorem over335_ok : SumOk Tryz.prog 335 overlapsSum := overlapsSum_ok pt_ok (tS := 147) (tR := 4) (e := 3) (n := 1) Tryz.func335 (by kernel_rfl) rfl (by kernel_rfl) (by kernel_rfl) (by kernel_rfl) (by kernel_rfl)
theorem byte_ok : SumOk Tryz.prog 350 indexByteSum := indexByteSum_ok Tryz.func350 (by kernel_rfl) rfl (by kernel_rfl) (by kernel_rfl)

theorem beq_true {a b : Nat} (h : Nat.beq a b = true) : a = b := Nat.eq_of_beq_eq_true h

theorem base_ok : ∀ f s, base f = some s → SumOk Tryz.prog f s := by
  intro f s h
  unfold base at h
  split at h
  · rename_i hb; cases beq_true hb; cases h; exact sorted_ok
  split at h
  · rename_i hb; cases beq_true hb; cases h; exact keys_ok
  split at h
  · rename_i hb; cases beq_true hb; cases h; exact sortedI_ok
  split at h
  · rename_i hb; cases beq_true hb; cases h; exact keysI_ok
  split at h
  · rename_i hb; cases beq_true hb; cases h; exact hex_ok
  split at h
  · rename_i hb; cases beq_true hb; cases h; exact join_ok
  split at h
  · rename_i hb; cases beq_true hb; cases h; exact over330_ok
  split at h
  · rename_i hb; cases beq_true hb; cases h; exact over333_ok
  split at h
  · rename_i hb; cases beq_true hb; cases h; exact over335_ok
  split at h
  · rename_i hb; cases beq_true hb; cases h; exact byte_ok
  · cases h
end Go.AI.Sn
