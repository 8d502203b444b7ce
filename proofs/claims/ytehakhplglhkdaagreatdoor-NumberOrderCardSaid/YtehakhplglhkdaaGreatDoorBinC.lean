/- number.Binary of two ints of one type: / and % by another than 0 and -1, << and >> by one not below 0. -/
import Derived.Test.YtehakhplglhkdaaGreatDoorBase
import Derived.Deep.QuietTactic
import Derived.BigQuiet
namespace Go.Proofs.YtehakhplglhkdaaGreatDoor
set_option linter.unusedVariables false
open Go.RowKit

set_option maxHeartbeats 2000000 in
theorem bin_div (t : ByteArray) (a b : Int) (w : World) (hb : b ≠ 0) (hb1 : b ≠ -1) : Calls Tryz.prog 17 #[.string ⟨#[47]⟩, (mk 2 t a 0 ⟨#[]⟩).val, (mk 2 t b 0 ⟨#[]⟩).val] w fun e w' => e = .returned (.tuple #[(mk 2 t (wrap64 (a.tdiv b)) 0 ⟨#[]⟩).val, .nilIface]) ∧ Below w.heap.size w w' := by
  unfold mk Dat.val
  have hb0 : (b == 0) = false := by simp [hb]
  have hb2 : (b == -1) = false := by simp [hb1]
  go_enter Tryz.func17, Tryz.ntmps17
  go_wp2
  go_quiet (fail)
  go_wp2
  go_returns
  refine And.intro rfl ?_
  go_grown
  all_goals (with_reducible refine below_drewN ?_ _)
  go_grown

set_option maxHeartbeats 2000000 in
theorem bin_rem (t : ByteArray) (a b : Int) (w : World) (hb : b ≠ 0) (hb1 : b ≠ -1) : Calls Tryz.prog 17 #[.string ⟨#[37]⟩, (mk 2 t a 0 ⟨#[]⟩).val, (mk 2 t b 0 ⟨#[]⟩).val] w fun e w' => e = .returned (.tuple #[(mk 2 t (wrap64 (a - wrap64 (wrap64 (a.tdiv b) * b))) 0 ⟨#[]⟩).val, .nilIface]) ∧ Below w.heap.size w w' := by
  unfold mk Dat.val
  have hb0 : (b == 0) = false := by simp [hb]
  have hb2 : (b == -1) = false := by simp [hb1]
  go_enter Tryz.func17, Tryz.ntmps17
  go_wp2
  go_quiet (fail)
  go_wp2
  go_returns
  refine And.intro rfl ?_
  go_grown
  all_goals (with_reducible refine below_drewN ?_ _)
  go_grown

set_option maxHeartbeats 2000000 in
theorem bin_shl (t : ByteArray) (a b : Int) (w : World) (hb : 0 ≤ b) : Calls Tryz.prog 17 #[.string ⟨#[60, 60]⟩, (mk 2 t a 0 ⟨#[]⟩).val, (mk 2 t b 0 ⟨#[]⟩).val] w fun e w' => e = .returned (.tuple #[(mk 2 t (if 64 < b then wrap64 (a * 18446744073709551616) else wrap64 (a * 2 ^ b.toNat)) 0 ⟨#[]⟩).val, .nilIface]) ∧ Below w.heap.size w w' := by
  unfold mk Dat.val
  go_enter Tryz.func17, Tryz.ntmps17
  go_wp2
  go_quiet (fail)
  go_wp2
  all_goals go_returns
  · rename_i h; (try rw [if_pos h])
    refine And.intro rfl ?_
    go_grown
    all_goals (with_reducible refine below_drewN ?_ _)
    go_grown
  · rename_i h; (try rw [if_neg (by omega)])
    refine And.intro rfl ?_
    go_grown
    all_goals (with_reducible refine below_drewN ?_ _)
    go_grown

set_option maxHeartbeats 2000000 in
theorem bin_shr (t : ByteArray) (a b : Int) (w : World) (hb : 0 ≤ b) : Calls Tryz.prog 17 #[.string ⟨#[62, 62]⟩, (mk 2 t a 0 ⟨#[]⟩).val, (mk 2 t b 0 ⟨#[]⟩).val] w fun e w' => e = .returned (.tuple #[(mk 2 t (if 63 < b then a / 9223372036854775808 else a / 2 ^ b.toNat) 0 ⟨#[]⟩).val, .nilIface]) ∧ Below w.heap.size w w' := by
  unfold mk Dat.val
  go_enter Tryz.func17, Tryz.ntmps17
  go_wp2
  go_quiet (fail)
  go_wp2
  all_goals go_returns
  · rename_i h; (try rw [if_pos h])
    refine And.intro rfl ?_
    go_grown
    all_goals (with_reducible refine below_drewN ?_ _)
    go_grown
  · rename_i h; (try rw [if_neg (by omega)])
    refine And.intro rfl ?_
    go_grown
    all_goals (with_reducible refine below_drewN ?_ _)
    go_grown
end Go.Proofs.YtehakhplglhkdaaGreatDoor
