/- number.ints: division, rest, shifts of any two data. Conditions: as said. -/
import Derived.Test.YtehakhplglhkdaaGreatDoorYes
import Derived.Deep.QuietTactic
import Derived.BigQuiet
namespace Go.Proofs.YtehakhplglhkdaaGreatDoor
set_option linter.unusedVariables false
open Go.RowKit

set_option maxRecDepth 200000 in
set_option maxHeartbeats 2000000 in
theorem i_div (t s : ByteArray) (n f ro rf rl rc : Int) (pa ia : Option Addr) (pn pc iN ic : Nat) (s2 : ByteArray) (n2 f2 ro2 rf2 rl2 rc2 : Int) (pa2 ia2 : Option Addr) (pn2 pc2 iN2 ic2 : Nat) (hb : n2 ≠ 0) (hb1 : n2 ≠ -1) (w : World) : Calls Tryz.prog 68 #[.string ⟨#[47]⟩, (Dat.mk 2 t n f s ro rf rl rc pa pn pc ia iN ic).val, (Dat.mk 2 t n2 f2 s2 ro2 rf2 rl2 rc2 pa2 pn2 pc2 ia2 iN2 ic2).val] w fun e w' => e = .returned (.tuple #[(mk 2 t (wrap64 (n.tdiv n2)) 0 ⟨#[]⟩).val, .bool true, .nilIface]) ∧ Below w.heap.size w w' := by
  have h0 : (n2 == 0) = false := by simp [hb]
  have h1 : (n2 != -1) = true := by simp [hb1]
  unfold mk Dat.val
  go_enter Tryz.func68, Tryz.ntmps68
  go_wp2
  go_quiet (fail)
  go_wp2
  go_returns
  refine And.intro rfl ?_
  go_grown
  all_goals (with_reducible refine below_drewN ?_ _)
  go_grown
set_option maxRecDepth 200000 in
set_option maxHeartbeats 2000000 in
theorem i_rem (t s : ByteArray) (n f ro rf rl rc : Int) (pa ia : Option Addr) (pn pc iN ic : Nat) (s2 : ByteArray) (n2 f2 ro2 rf2 rl2 rc2 : Int) (pa2 ia2 : Option Addr) (pn2 pc2 iN2 ic2 : Nat) (hb : n2 ≠ 0) (hb1 : n2 ≠ -1) (w : World) : Calls Tryz.prog 68 #[.string ⟨#[37]⟩, (Dat.mk 2 t n f s ro rf rl rc pa pn pc ia iN ic).val, (Dat.mk 2 t n2 f2 s2 ro2 rf2 rl2 rc2 pa2 pn2 pc2 ia2 iN2 ic2).val] w fun e w' => e = .returned (.tuple #[(mk 2 t (wrap64 (n - wrap64 (wrap64 (n.tdiv n2) * n2))) 0 ⟨#[]⟩).val, .bool true, .nilIface]) ∧ Below w.heap.size w w' := by
  have h0 : (n2 == 0) = false := by simp [hb]
  have h1 : (n2 != -1) = true := by simp [hb1]
  unfold mk Dat.val
  go_enter Tryz.func68, Tryz.ntmps68
  go_wp2
  go_quiet (fail)
  go_wp2
  go_returns
  refine And.intro rfl ?_
  go_grown
  all_goals (with_reducible refine below_drewN ?_ _)
  go_grown
set_option maxRecDepth 200000 in
set_option maxHeartbeats 2000000 in
theorem i_divm (t s : ByteArray) (n f ro rf rl rc : Int) (pa ia : Option Addr) (pn pc iN ic : Nat) (s2 : ByteArray) (n2 f2 ro2 rf2 rl2 rc2 : Int) (pa2 ia2 : Option Addr) (pn2 pc2 iN2 ic2 : Nat) (w : World) : Calls Tryz.prog 68 #[.string ⟨#[47]⟩, (Dat.mk 2 t n f s ro rf rl rc pa pn pc ia iN ic).val, (Dat.mk 2 t (-1) f2 s2 ro2 rf2 rl2 rc2 pa2 pn2 pc2 ia2 iN2 ic2).val] w fun e w' => e = .returned (.tuple #[(mk 2 t (wrap64 (-n)) 0 ⟨#[]⟩).val, .bool true, .nilIface]) ∧ Below w.heap.size w w' := by
  unfold mk Dat.val
  go_enter Tryz.func68, Tryz.ntmps68
  go_wp2
  go_quiet (fail)
  go_wp2
  go_returns
  refine And.intro rfl ?_
  go_grown
  all_goals (with_reducible refine below_drewN ?_ _)
  go_grown
set_option maxRecDepth 200000 in
set_option maxHeartbeats 2000000 in
theorem i_remm (t s : ByteArray) (n f ro rf rl rc : Int) (pa ia : Option Addr) (pn pc iN ic : Nat) (s2 : ByteArray) (n2 f2 ro2 rf2 rl2 rc2 : Int) (pa2 ia2 : Option Addr) (pn2 pc2 iN2 ic2 : Nat) (w : World) : Calls Tryz.prog 68 #[.string ⟨#[37]⟩, (Dat.mk 2 t n f s ro rf rl rc pa pn pc ia iN ic).val, (Dat.mk 2 t (-1) f2 s2 ro2 rf2 rl2 rc2 pa2 pn2 pc2 ia2 iN2 ic2).val] w fun e w' => e = .returned (.tuple #[(mk 2 t (wrap64 (n - wrap64 (-wrap64 (-n)))) 0 ⟨#[]⟩).val, .bool true, .nilIface]) ∧ Below w.heap.size w w' := by
  unfold mk Dat.val
  go_enter Tryz.func68, Tryz.ntmps68
  go_wp2
  go_quiet (fail)
  go_wp2
  go_returns
  refine And.intro rfl ?_
  go_grown
  all_goals (with_reducible refine below_drewN ?_ _)
  go_grown
set_option maxRecDepth 200000 in
set_option maxHeartbeats 2000000 in
theorem i_shl (t s : ByteArray) (n f ro rf rl rc : Int) (pa ia : Option Addr) (pn pc iN ic : Nat) (s2 : ByteArray) (n2 f2 ro2 rf2 rl2 rc2 : Int) (pa2 ia2 : Option Addr) (pn2 pc2 iN2 ic2 : Nat) (hb : 0 ≤ n2) (w : World) : Calls Tryz.prog 68 #[.string ⟨#[60, 60]⟩, (Dat.mk 2 t n f s ro rf rl rc pa pn pc ia iN ic).val, (Dat.mk 2 t n2 f2 s2 ro2 rf2 rl2 rc2 pa2 pn2 pc2 ia2 iN2 ic2).val] w fun e w' => e = .returned (.tuple #[(mk 2 t (wrap64 (n * 2 ^ (min n2 64).toNat)) 0 ⟨#[]⟩).val, .bool true, .nilIface]) ∧ Below w.heap.size w w' := by
  unfold mk Dat.val
  go_enter Tryz.func68, Tryz.ntmps68
  go_wp2
  go_quiet (fail)
  go_wp2
  all_goals
    go_returns
    refine And.intro rfl ?_
    go_grown
    all_goals (with_reducible refine below_drewN ?_ _)
    go_grown
set_option maxRecDepth 200000 in
set_option maxHeartbeats 2000000 in
theorem i_shr (t s : ByteArray) (n f ro rf rl rc : Int) (pa ia : Option Addr) (pn pc iN ic : Nat) (s2 : ByteArray) (n2 f2 ro2 rf2 rl2 rc2 : Int) (pa2 ia2 : Option Addr) (pn2 pc2 iN2 ic2 : Nat) (hb : 0 ≤ n2) (w : World) : Calls Tryz.prog 68 #[.string ⟨#[62, 62]⟩, (Dat.mk 2 t n f s ro rf rl rc pa pn pc ia iN ic).val, (Dat.mk 2 t n2 f2 s2 ro2 rf2 rl2 rc2 pa2 pn2 pc2 ia2 iN2 ic2).val] w fun e w' => e = .returned (.tuple #[(mk 2 t (n / 2 ^ (min n2 63).toNat) 0 ⟨#[]⟩).val, .bool true, .nilIface]) ∧ Below w.heap.size w w' := by
  unfold mk Dat.val
  go_enter Tryz.func68, Tryz.ntmps68
  go_wp2
  go_quiet (fail)
  go_wp2
  all_goals
    go_returns
    refine And.intro rfl ?_
    go_grown
    all_goals (with_reducible refine below_drewN ?_ _)
    go_grown
end Go.Proofs.YtehakhplglhkdaaGreatDoor
