/- number.ints: + - * & | ^ of any two data. No condition. -/
import Derived.Test.YtehakhplglhkdaaGreatDoorYes
import Derived.Deep.QuietTactic
import Derived.BigQuiet
namespace Go.Proofs.YtehakhplglhkdaaGreatDoor
set_option linter.unusedVariables false
open Go.RowKit

set_option maxRecDepth 200000 in
set_option maxHeartbeats 2000000 in
theorem i_add (t s : ByteArray) (n f ro rf rl rc : Int) (pa ia : Option Addr) (pn pc iN ic : Nat) (s2 : ByteArray) (n2 f2 ro2 rf2 rl2 rc2 : Int) (pa2 ia2 : Option Addr) (pn2 pc2 iN2 ic2 : Nat) (w : World) : Calls Tryz.prog 68 #[.string ⟨#[43]⟩, (Dat.mk 2 t n f s ro rf rl rc pa pn pc ia iN ic).val, (Dat.mk 2 t n2 f2 s2 ro2 rf2 rl2 rc2 pa2 pn2 pc2 ia2 iN2 ic2).val] w fun e w' => e = .returned (.tuple #[(mk 2 t (wrap64 (n + n2)) 0 ⟨#[]⟩).val, .bool true, .nilIface]) ∧ Below w.heap.size w w' := by
  unfold mk Dat.val
  go_enter Tryz.func68, Tryz.ntmps68
  go_wp2
  go_quiet (fail)
  go_wp2
  go_returns
  refine And.intro rfl ?_
  go_grown
  all_goals (with_reducible refine below_drewN ?_ _)
  go_grown
set_option maxRecDepth 200000 in
set_option maxHeartbeats 2000000 in
theorem i_sub (t s : ByteArray) (n f ro rf rl rc : Int) (pa ia : Option Addr) (pn pc iN ic : Nat) (s2 : ByteArray) (n2 f2 ro2 rf2 rl2 rc2 : Int) (pa2 ia2 : Option Addr) (pn2 pc2 iN2 ic2 : Nat) (w : World) : Calls Tryz.prog 68 #[.string ⟨#[45]⟩, (Dat.mk 2 t n f s ro rf rl rc pa pn pc ia iN ic).val, (Dat.mk 2 t n2 f2 s2 ro2 rf2 rl2 rc2 pa2 pn2 pc2 ia2 iN2 ic2).val] w fun e w' => e = .returned (.tuple #[(mk 2 t (wrap64 (n - n2)) 0 ⟨#[]⟩).val, .bool true, .nilIface]) ∧ Below w.heap.size w w' := by
  unfold mk Dat.val
  go_enter Tryz.func68, Tryz.ntmps68
  go_wp2
  go_quiet (fail)
  go_wp2
  go_returns
  refine And.intro rfl ?_
  go_grown
  all_goals (with_reducible refine below_drewN ?_ _)
  go_grown
set_option maxRecDepth 200000 in
set_option maxHeartbeats 2000000 in
theorem i_mul (t s : ByteArray) (n f ro rf rl rc : Int) (pa ia : Option Addr) (pn pc iN ic : Nat) (s2 : ByteArray) (n2 f2 ro2 rf2 rl2 rc2 : Int) (pa2 ia2 : Option Addr) (pn2 pc2 iN2 ic2 : Nat) (w : World) : Calls Tryz.prog 68 #[.string ⟨#[42]⟩, (Dat.mk 2 t n f s ro rf rl rc pa pn pc ia iN ic).val, (Dat.mk 2 t n2 f2 s2 ro2 rf2 rl2 rc2 pa2 pn2 pc2 ia2 iN2 ic2).val] w fun e w' => e = .returned (.tuple #[(mk 2 t (wrap64 (n * n2)) 0 ⟨#[]⟩).val, .bool true, .nilIface]) ∧ Below w.heap.size w w' := by
  unfold mk Dat.val
  go_enter Tryz.func68, Tryz.ntmps68
  go_wp2
  go_quiet (fail)
  go_wp2
  go_returns
  refine And.intro rfl ?_
  go_grown
  all_goals (with_reducible refine below_drewN ?_ _)
  go_grown
set_option maxRecDepth 200000 in
set_option maxHeartbeats 2000000 in
theorem i_and (t s : ByteArray) (n f ro rf rl rc : Int) (pa ia : Option Addr) (pn pc iN ic : Nat) (s2 : ByteArray) (n2 f2 ro2 rf2 rl2 rc2 : Int) (pa2 ia2 : Option Addr) (pn2 pc2 iN2 ic2 : Nat) (w : World) : Calls Tryz.prog 68 #[.string ⟨#[38]⟩, (Dat.mk 2 t n f s ro rf rl rc pa pn pc ia iN ic).val, (Dat.mk 2 t n2 f2 s2 ro2 rf2 rl2 rc2 pa2 pn2 pc2 ia2 iN2 ic2).val] w fun e w' => e = .returned (.tuple #[(mk 2 t (bits BinOp.and .i64 n n2) 0 ⟨#[]⟩).val, .bool true, .nilIface]) ∧ Below w.heap.size w w' := by
  unfold mk Dat.val
  go_enter Tryz.func68, Tryz.ntmps68
  go_wp2
  go_quiet (fail)
  go_wp2
  go_returns
  refine And.intro rfl ?_
  go_grown
  all_goals (with_reducible refine below_drewN ?_ _)
  go_grown
set_option maxRecDepth 200000 in
set_option maxHeartbeats 2000000 in
theorem i_or (t s : ByteArray) (n f ro rf rl rc : Int) (pa ia : Option Addr) (pn pc iN ic : Nat) (s2 : ByteArray) (n2 f2 ro2 rf2 rl2 rc2 : Int) (pa2 ia2 : Option Addr) (pn2 pc2 iN2 ic2 : Nat) (w : World) : Calls Tryz.prog 68 #[.string ⟨#[124]⟩, (Dat.mk 2 t n f s ro rf rl rc pa pn pc ia iN ic).val, (Dat.mk 2 t n2 f2 s2 ro2 rf2 rl2 rc2 pa2 pn2 pc2 ia2 iN2 ic2).val] w fun e w' => e = .returned (.tuple #[(mk 2 t (bits BinOp.or .i64 n n2) 0 ⟨#[]⟩).val, .bool true, .nilIface]) ∧ Below w.heap.size w w' := by
  unfold mk Dat.val
  go_enter Tryz.func68, Tryz.ntmps68
  go_wp2
  go_quiet (fail)
  go_wp2
  go_returns
  refine And.intro rfl ?_
  go_grown
  all_goals (with_reducible refine below_drewN ?_ _)
  go_grown
set_option maxRecDepth 200000 in
set_option maxHeartbeats 2000000 in
theorem i_xor (t s : ByteArray) (n f ro rf rl rc : Int) (pa ia : Option Addr) (pn pc iN ic : Nat) (s2 : ByteArray) (n2 f2 ro2 rf2 rl2 rc2 : Int) (pa2 ia2 : Option Addr) (pn2 pc2 iN2 ic2 : Nat) (w : World) : Calls Tryz.prog 68 #[.string ⟨#[94]⟩, (Dat.mk 2 t n f s ro rf rl rc pa pn pc ia iN ic).val, (Dat.mk 2 t n2 f2 s2 ro2 rf2 rl2 rc2 pa2 pn2 pc2 ia2 iN2 ic2).val] w fun e w' => e = .returned (.tuple #[(mk 2 t (bits BinOp.xor .i64 n n2) 0 ⟨#[]⟩).val, .bool true, .nilIface]) ∧ Below w.heap.size w w' := by
  unfold mk Dat.val
  go_enter Tryz.func68, Tryz.ntmps68
  go_wp2
  go_quiet (fail)
  go_wp2
  go_returns
  refine And.intro rfl ?_
  go_grown
  all_goals (with_reducible refine below_drewN ?_ _)
  go_grown
end Go.Proofs.YtehakhplglhkdaaGreatDoor
