/- number.floats' comparisons. No condition. -/
import Derived.Test.YtehakhplglhkdaaGreatDoorYes
import Derived.Test.YtehakhplglhkdaaGreatDoorFloats
namespace Go.Proofs.YtehakhplglhkdaaGreatDoor
set_option linter.unusedVariables false
open Go.RowKit

set_option maxRecDepth 200000 in
set_option maxHeartbeats 2000000 in
theorem floats_lt (t : ByteArray) (x y : Nat) (r : Bool) (w : World) (h : (FloatKind.f64.format.order x y == some .lt) = r) :
    Calls Tryz.prog 69 #[.string ⟨#[60]⟩, .string t, .float .f64 x, .float .f64 y] w fun e w' => e = .returned (.tuple #[(yes r).val, .bool true]) ∧ Below w.heap.size w w' := by
  unfold yes sBool mk Dat.val
  cases r <;>
  · go_enter Tryz.func69, Tryz.ntmps69
    go_wp2
    go_returns
    exact ⟨rfl, by go_grown⟩
end Go.Proofs.YtehakhplglhkdaaGreatDoor
