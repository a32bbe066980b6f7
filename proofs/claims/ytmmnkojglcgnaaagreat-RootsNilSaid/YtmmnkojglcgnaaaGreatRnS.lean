/- Functions of Go's library: what the tables say of them holds. -/
import Derived.Test.YtmmnkojglcgnaaaGreatRnP
import Derived.Test.YtmmnkojglcgnaaaGreatRnL
namespace Go.AI.Rn
open Go.RowKit Go.Maps Go.Proofs
theorem pt_ok : pt.Ok Tryz.prog := ptOf_ok (by kernel_rfl) (by kernel_rfl) (by kernel_rfl)

theorem sorts (m : Nat) : AnyZ.SortsIn Tryz.prog Tryz.sorted45_ren Fence.wide m :=
  ⟨fun blk off cap ss W hH hblk hsz => callsIn_wide.2 (AnyM.slices_Sort_string Tryz.sort86 blk off cap ss W hH hblk hsz),
   fun p cap W => callsIn_wide.2 (AnyM.slices_Sort_string_none Tryz.sort86 p cap W)⟩

theorem keys_ok : SumOk Tryz.prog 46 (keysSum 87) :=
  keysSum_ok (tm := 82) (enters_of Tryz.func46 (by kernel_rfl) rfl) fun mb W => AnyZ.keys_in Tryz.keys46 Fence.wide 5 trivial rfl mb W

theorem sorted_ok : SumOk Tryz.prog 45 (sortedSum 87) :=
  sortedSum_ok (kt := 9) (by kernel_rfl) (enters_of Tryz.func45 (by kernel_rfl) rfl) fun b nn D0 w Bm hlt hc hown hmax hbytes => by
    have hseq : SeqGives Fence.wide 2 Tryz.prog 87 #[.pointer (some ⟨Bm, 0, none⟩)] encStr (fun ss => ss.Perm (strKeys D0)) (Maps.size D0) w :=
      AnyZ.keys_gives (ρ := Tryz.keys46_ren) { Tryz.keys46 with } Fence.wide _ trivial rfl (by omega) Bm b nn D0 w hlt hc hown
    exact AnyZ.sorted_in Tryz.sorted45 Fence.wide 5 trivial trivial trivial trivial rfl (by omega) (sorts _) (enters_of Tryz.func86 (by kernel_rfl) rfl) 87 #[.pointer (some ⟨Bm, 0, none⟩)] trivial (enters_of Tryz.func87 (by kernel_rfl) rfl) _ _ hmax hbytes _ hseq

theorem over212_ok : SumOk Tryz.prog 212 overlapsSum := overlapsSum_ok pt_ok (tS := 41) (tR := 4) (e := 45) (n := 2) Tryz.func212 (by kernel_rfl) rfl (by kernel_rfl) (by kernel_rfl) (by kernel_rfl) (by kernel_rfl)
theorem over215_ok : SumOk Tryz.prog 215 overlapsSum := overlapsSum_ok pt_ok (tS := 25) (tR := 4) (e := 9) (n := 1) Tryz.func215 (by kernel_rfl) rfl (by kernel_rfl) (by kernel_rfl) (by kernel_rfl) (by kernel_rfl)
theorem over217_ok : SumOk Tryz.prog 217 overlapsSum := overlapsSum_ok pt_ok (tS := 59) (tR := 4) (e := 3) (n := 1) Tryz.func217 (by kernel_rfl) rfl (by kernel_rfl) (by kernel_rfl) (by kernel_rfl) (by kernel_rfl)
theorem byte_ok : SumOk Tryz.prog 234 indexByteSum := indexByteSum_ok Tryz.func234 (by kernel_rfl) rfl (by kernel_rfl) (by kernel_rfl)

theorem beq_true {a b : Nat} (h : Nat.beq a b = true) : a = b := Nat.eq_of_beq_eq_true h

theorem base_ok : ∀ f s, base f = some s → SumOk Tryz.prog f s := by
  intro f s h
  unfold base at h
  split at h
  · rename_i hb; cases beq_true hb; cases h; exact sorted_ok
  split at h
  · rename_i hb; cases beq_true hb; cases h; exact keys_ok
  split at h
  · rename_i hb; cases beq_true hb; cases h; exact over212_ok
  split at h
  · rename_i hb; cases beq_true hb; cases h; exact over215_ok
  split at h
  · rename_i hb; cases beq_true hb; cases h; exact over217_ok
  split at h
  · rename_i hb; cases beq_true hb; cases h; exact byte_ok
  · cases h
end Go.AI.Rn
