/- number.Binary of two ints of one type: + - * &. No condition. -/
import Derived.Test.YtehakhplglhkdaaGreatDoorBase
import Derived.Deep.QuietTactic
import Derived.BigQuiet
namespace Go.Proofs.YtehakhplglhkdaaGreatDoor
set_option linter.unusedVariables false
open Go.RowKit

set_option maxHeartbeats 2000000 in
theorem bin_add (t : ByteArray) (a b : Int) (w : World) : Calls Tryz.prog 17 #[.string ⟨#[43]⟩, (mk 2 t a 0 ⟨#[]⟩).val, (mk 2 t b 0 ⟨#[]⟩).val] w fun e w' => e = .returned (.tuple #[(mk 2 t (wrap64 (a + b)) 0 ⟨#[]⟩).val, .nilIface]) ∧ Below w.heap.size w w' := by
  unfold mk Dat.val
  go_enter Tryz.func17, Tryz.ntmps17
  go_wp2
  go_quiet (fail)
  go_wp2
  go_returns
  refine And.intro rfl ?_
  go_grown
  all_goals (with_reducible refine below_drewN ?_ _)
  go_grown

set_option maxHeartbeats 2000000 in
theorem bin_sub (t : ByteArray) (a b : Int) (w : World) : Calls Tryz.prog 17 #[.string ⟨#[45]⟩, (mk 2 t a 0 ⟨#[]⟩).val, (mk 2 t b 0 ⟨#[]⟩).val] w fun e w' => e = .returned (.tuple #[(mk 2 t (wrap64 (a - b)) 0 ⟨#[]⟩).val, .nilIface]) ∧ Below w.heap.size w w' := by
  unfold mk Dat.val
  go_enter Tryz.func17, Tryz.ntmps17
  go_wp2
  go_quiet (fail)
  go_wp2
  go_returns
  refine And.intro rfl ?_
  go_grown
  all_goals (with_reducible refine below_drewN ?_ _)
  go_grown

set_option maxHeartbeats 2000000 in
theorem bin_mul (t : ByteArray) (a b : Int) (w : World) : Calls Tryz.prog 17 #[.string ⟨#[42]⟩, (mk 2 t a 0 ⟨#[]⟩).val, (mk 2 t b 0 ⟨#[]⟩).val] w fun e w' => e = .returned (.tuple #[(mk 2 t (wrap64 (a * b)) 0 ⟨#[]⟩).val, .nilIface]) ∧ Below w.heap.size w w' := by
  unfold mk Dat.val
  go_enter Tryz.func17, Tryz.ntmps17
  go_wp2
  go_quiet (fail)
  go_wp2
  go_returns
  refine And.intro rfl ?_
  go_grown
  all_goals (with_reducible refine below_drewN ?_ _)
  go_grown

set_option maxHeartbeats 2000000 in
theorem bin_and (t : ByteArray) (a b : Int) (w : World) : Calls Tryz.prog 17 #[.string ⟨#[38]⟩, (mk 2 t a 0 ⟨#[]⟩).val, (mk 2 t b 0 ⟨#[]⟩).val] w fun e w' => e = .returned (.tuple #[(mk 2 t (bits BinOp.and .i64 a b) 0 ⟨#[]⟩).val, .nilIface]) ∧ Below w.heap.size w w' := by
  unfold mk Dat.val
  go_enter Tryz.func17, Tryz.ntmps17
  go_wp2
  go_quiet (fail)
  go_wp2
  go_returns
  refine And.intro rfl ?_
  go_grown
  all_goals (with_reducible refine below_drewN ?_ _)
  go_grown
end Go.Proofs.YtehakhplglhkdaaGreatDoor
