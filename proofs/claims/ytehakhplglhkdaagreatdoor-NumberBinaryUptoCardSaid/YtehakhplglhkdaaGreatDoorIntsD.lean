/- number.ints: what is no operation. No condition. -/
import Derived.Test.YtehakhplglhkdaaGreatDoorYes
import Derived.Deep.QuietTactic
import Derived.BigQuiet
namespace Go.Proofs.YtehakhplglhkdaaGreatDoor
set_option linter.unusedVariables false
open Go.RowKit

set_option maxRecDepth 200000 in
set_option maxHeartbeats 2000000 in
theorem i_no_l (op : ByteArray) (t s : ByteArray) (n f ro rf rl rc : Int) (pa ia : Option Addr) (pn pc iN ic : Nat) (s2 : ByteArray) (n2 f2 ro2 rf2 rl2 rc2 : Int) (pa2 ia2 : Option Addr) (pn2 pc2 iN2 ic2 : Nat) (h0 : (op.toList == [43]) = false) (h1 : (op.toList == [45]) = false) (h2 : (op.toList == [42]) = false) (h3 : (op.toList == [47]) = false) (h4 : (op.toList == [37]) = false) (h5 : (op.toList == [38]) = false) (h6 : (op.toList == [124]) = false) (h7 : (op.toList == [94]) = false) (h8 : (op.toList == [60, 60]) = false) (h9 : (op.toList == [62, 62]) = false) (h10 : (op.toList == [60, 61]) = false) (h11 : (op.toList == [60]) = false) (h12 : (op.toList == [62, 61]) = false) (h13 : (op.toList == [62]) = false) (h : n < n2) (w : World) : Calls Tryz.prog 68 #[.string op, (Dat.mk 2 t n f s ro rf rl rc pa pn pc ia iN ic).val, (Dat.mk 2 t n2 f2 s2 ro2 rf2 rl2 rc2 pa2 pn2 pc2 ia2 iN2 ic2).val] w fun e w' => e = .returned (.tuple #[(mk 1 ⟨#[98, 111, 111, 108]⟩ 0 0 ⟨#[]⟩).val, .bool false, .nilIface]) ∧ Below w.heap.size w w' := by
  have c1 : decide (n < n2) = true := decide_eq_true h
  clear h
  unfold mk Dat.val
  go_enter Tryz.func68, Tryz.ntmps68
  go_wp2
  go_quiet (fail)
  go_wp2
  go_returns
  refine And.intro rfl ?_
  go_grown
  all_goals (with_reducible refine below_drewN ?_ _)
  go_grown
set_option maxRecDepth 200000 in
set_option maxHeartbeats 2000000 in
theorem i_no_g (op : ByteArray) (t s : ByteArray) (n f ro rf rl rc : Int) (pa ia : Option Addr) (pn pc iN ic : Nat) (s2 : ByteArray) (n2 f2 ro2 rf2 rl2 rc2 : Int) (pa2 ia2 : Option Addr) (pn2 pc2 iN2 ic2 : Nat) (h0 : (op.toList == [43]) = false) (h1 : (op.toList == [45]) = false) (h2 : (op.toList == [42]) = false) (h3 : (op.toList == [47]) = false) (h4 : (op.toList == [37]) = false) (h5 : (op.toList == [38]) = false) (h6 : (op.toList == [124]) = false) (h7 : (op.toList == [94]) = false) (h8 : (op.toList == [60, 60]) = false) (h9 : (op.toList == [62, 62]) = false) (h10 : (op.toList == [60, 61]) = false) (h11 : (op.toList == [60]) = false) (h12 : (op.toList == [62, 61]) = false) (h13 : (op.toList == [62]) = false) (h : n2 < n) (w : World) : Calls Tryz.prog 68 #[.string op, (Dat.mk 2 t n f s ro rf rl rc pa pn pc ia iN ic).val, (Dat.mk 2 t n2 f2 s2 ro2 rf2 rl2 rc2 pa2 pn2 pc2 ia2 iN2 ic2).val] w fun e w' => e = .returned (.tuple #[(mk 1 ⟨#[98, 111, 111, 108]⟩ 0 0 ⟨#[]⟩).val, .bool false, .nilIface]) ∧ Below w.heap.size w w' := by
  have c1 : decide (n < n2) = false := decide_eq_false (by omega)
  have c2 : decide (n2 < n) = true := decide_eq_true h
  have c3 : ¬ n < n2 := by omega
  clear h
  unfold mk Dat.val
  go_enter Tryz.func68, Tryz.ntmps68
  go_wp2
  go_quiet (fail)
  go_wp2
  go_returns
  refine And.intro rfl ?_
  go_grown
  all_goals (with_reducible refine below_drewN ?_ _)
  go_grown
set_option maxRecDepth 200000 in
set_option maxHeartbeats 2000000 in
theorem i_no_e (op : ByteArray) (t s : ByteArray) (n f ro rf rl rc : Int) (pa ia : Option Addr) (pn pc iN ic : Nat) (s2 : ByteArray) (n2 f2 ro2 rf2 rl2 rc2 : Int) (pa2 ia2 : Option Addr) (pn2 pc2 iN2 ic2 : Nat) (h0 : (op.toList == [43]) = false) (h1 : (op.toList == [45]) = false) (h2 : (op.toList == [42]) = false) (h3 : (op.toList == [47]) = false) (h4 : (op.toList == [37]) = false) (h5 : (op.toList == [38]) = false) (h6 : (op.toList == [124]) = false) (h7 : (op.toList == [94]) = false) (h8 : (op.toList == [60, 60]) = false) (h9 : (op.toList == [62, 62]) = false) (h10 : (op.toList == [60, 61]) = false) (h11 : (op.toList == [60]) = false) (h12 : (op.toList == [62, 61]) = false) (h13 : (op.toList == [62]) = false) (h : n = n2) (w : World) : Calls Tryz.prog 68 #[.string op, (Dat.mk 2 t n f s ro rf rl rc pa pn pc ia iN ic).val, (Dat.mk 2 t n2 f2 s2 ro2 rf2 rl2 rc2 pa2 pn2 pc2 ia2 iN2 ic2).val] w fun e w' => e = .returned (.tuple #[(mk 1 ⟨#[98, 111, 111, 108]⟩ 0 0 ⟨#[]⟩).val, .bool false, .nilIface]) ∧ Below w.heap.size w w' := by
  subst h
  unfold mk Dat.val
  go_enter Tryz.func68, Tryz.ntmps68
  go_wp2
  go_quiet (fail)
  go_wp2
  go_returns
  refine And.intro rfl ?_
  go_grown
  all_goals (with_reducible refine below_drewN ?_ _)
  go_grown
end Go.Proofs.YtehakhplglhkdaaGreatDoor
