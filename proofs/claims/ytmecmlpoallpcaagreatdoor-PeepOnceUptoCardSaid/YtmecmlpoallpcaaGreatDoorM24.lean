/- number.ints of two ints: no fault. (Printed by gen_peepnum.py out of the Number seat's texts.) -/
import Derived.Test.YtmecmlpoallpcaaGreatDoorM11
namespace Go.Proofs.YtmecmlpoallpcaaGreatDoor
set_option linter.unusedVariables false
open Go.RowKit

theorem i_add (t s : ByteArray) (n f ro rf rl rc : Int) (pa ia : Option Addr) (pn pc iN ic : Nat) (s2 : ByteArray) (n2 f2 ro2 rf2 rl2 rc2 : Int) (pa2 ia2 : Option Addr) (pn2 pc2 iN2 ic2 : Nat) (w : World) : Calls Tryz.prog 188 #[.string ⟨#[43]⟩, (Dat.mk 2 t n f s ro rf rl rc pa pn pc ia iN ic).val, (Dat.mk 2 t n2 f2 s2 ro2 rf2 rl2 rc2 pa2 pn2 pc2 ia2 iN2 ic2).val] w fun e w' => e = .returned (.tuple #[(mk 2 t (wrap64 (n + n2)) 0 ⟨#[]⟩).val, .bool true, .nilIface]) ∧ Below w.heap.size w w' := by
  unfold mk Dat.val
  go_enter Tryz.func188, Tryz.ntmps188
  go_wp2
  go_quiet (fail)
  go_wp2
  go_returns
  refine And.intro rfl ?_
  go_grown
  all_goals (with_reducible refine below_drewN ?_ _)
  go_grown
theorem i_sub (t s : ByteArray) (n f ro rf rl rc : Int) (pa ia : Option Addr) (pn pc iN ic : Nat) (s2 : ByteArray) (n2 f2 ro2 rf2 rl2 rc2 : Int) (pa2 ia2 : Option Addr) (pn2 pc2 iN2 ic2 : Nat) (w : World) : Calls Tryz.prog 188 #[.string ⟨#[45]⟩, (Dat.mk 2 t n f s ro rf rl rc pa pn pc ia iN ic).val, (Dat.mk 2 t n2 f2 s2 ro2 rf2 rl2 rc2 pa2 pn2 pc2 ia2 iN2 ic2).val] w fun e w' => e = .returned (.tuple #[(mk 2 t (wrap64 (n - n2)) 0 ⟨#[]⟩).val, .bool true, .nilIface]) ∧ Below w.heap.size w w' := by
  unfold mk Dat.val
  go_enter Tryz.func188, Tryz.ntmps188
  go_wp2
  go_quiet (fail)
  go_wp2
  go_returns
  refine And.intro rfl ?_
  go_grown
  all_goals (with_reducible refine below_drewN ?_ _)
  go_grown
theorem i_mul (t s : ByteArray) (n f ro rf rl rc : Int) (pa ia : Option Addr) (pn pc iN ic : Nat) (s2 : ByteArray) (n2 f2 ro2 rf2 rl2 rc2 : Int) (pa2 ia2 : Option Addr) (pn2 pc2 iN2 ic2 : Nat) (w : World) : Calls Tryz.prog 188 #[.string ⟨#[42]⟩, (Dat.mk 2 t n f s ro rf rl rc pa pn pc ia iN ic).val, (Dat.mk 2 t n2 f2 s2 ro2 rf2 rl2 rc2 pa2 pn2 pc2 ia2 iN2 ic2).val] w fun e w' => e = .returned (.tuple #[(mk 2 t (wrap64 (n * n2)) 0 ⟨#[]⟩).val, .bool true, .nilIface]) ∧ Below w.heap.size w w' := by
  unfold mk Dat.val
  go_enter Tryz.func188, Tryz.ntmps188
  go_wp2
  go_quiet (fail)
  go_wp2
  go_returns
  refine And.intro rfl ?_
  go_grown
  all_goals (with_reducible refine below_drewN ?_ _)
  go_grown
theorem i_and (t s : ByteArray) (n f ro rf rl rc : Int) (pa ia : Option Addr) (pn pc iN ic : Nat) (s2 : ByteArray) (n2 f2 ro2 rf2 rl2 rc2 : Int) (pa2 ia2 : Option Addr) (pn2 pc2 iN2 ic2 : Nat) (w : World) : Calls Tryz.prog 188 #[.string ⟨#[38]⟩, (Dat.mk 2 t n f s ro rf rl rc pa pn pc ia iN ic).val, (Dat.mk 2 t n2 f2 s2 ro2 rf2 rl2 rc2 pa2 pn2 pc2 ia2 iN2 ic2).val] w fun e w' => e = .returned (.tuple #[(mk 2 t (bits BinOp.and .i64 n n2) 0 ⟨#[]⟩).val, .bool true, .nilIface]) ∧ Below w.heap.size w w' := by
  unfold mk Dat.val
  go_enter Tryz.func188, Tryz.ntmps188
  go_wp2
  go_quiet (fail)
  go_wp2
  go_returns
  refine And.intro rfl ?_
  go_grown
  all_goals (with_reducible refine below_drewN ?_ _)
  go_grown
theorem i_or (t s : ByteArray) (n f ro rf rl rc : Int) (pa ia : Option Addr) (pn pc iN ic : Nat) (s2 : ByteArray) (n2 f2 ro2 rf2 rl2 rc2 : Int) (pa2 ia2 : Option Addr) (pn2 pc2 iN2 ic2 : Nat) (w : World) : Calls Tryz.prog 188 #[.string ⟨#[124]⟩, (Dat.mk 2 t n f s ro rf rl rc pa pn pc ia iN ic).val, (Dat.mk 2 t n2 f2 s2 ro2 rf2 rl2 rc2 pa2 pn2 pc2 ia2 iN2 ic2).val] w fun e w' => e = .returned (.tuple #[(mk 2 t (bits BinOp.or .i64 n n2) 0 ⟨#[]⟩).val, .bool true, .nilIface]) ∧ Below w.heap.size w w' := by
  unfold mk Dat.val
  go_enter Tryz.func188, Tryz.ntmps188
  go_wp2
  go_quiet (fail)
  go_wp2
  go_returns
  refine And.intro rfl ?_
  go_grown
  all_goals (with_reducible refine below_drewN ?_ _)
  go_grown
theorem i_xor (t s : ByteArray) (n f ro rf rl rc : Int) (pa ia : Option Addr) (pn pc iN ic : Nat) (s2 : ByteArray) (n2 f2 ro2 rf2 rl2 rc2 : Int) (pa2 ia2 : Option Addr) (pn2 pc2 iN2 ic2 : Nat) (w : World) : Calls Tryz.prog 188 #[.string ⟨#[94]⟩, (Dat.mk 2 t n f s ro rf rl rc pa pn pc ia iN ic).val, (Dat.mk 2 t n2 f2 s2 ro2 rf2 rl2 rc2 pa2 pn2 pc2 ia2 iN2 ic2).val] w fun e w' => e = .returned (.tuple #[(mk 2 t (bits BinOp.xor .i64 n n2) 0 ⟨#[]⟩).val, .bool true, .nilIface]) ∧ Below w.heap.size w w' := by
  unfold mk Dat.val
  go_enter Tryz.func188, Tryz.ntmps188
  go_wp2
  go_quiet (fail)
  go_wp2
  go_returns
  refine And.intro rfl ?_
  go_grown
  all_goals (with_reducible refine below_drewN ?_ _)
  go_grown
theorem i_div (t s : ByteArray) (n f ro rf rl rc : Int) (pa ia : Option Addr) (pn pc iN ic : Nat) (s2 : ByteArray) (n2 f2 ro2 rf2 rl2 rc2 : Int) (pa2 ia2 : Option Addr) (pn2 pc2 iN2 ic2 : Nat) (hb : n2 ≠ 0) (hb1 : n2 ≠ -1) (w : World) : Calls Tryz.prog 188 #[.string ⟨#[47]⟩, (Dat.mk 2 t n f s ro rf rl rc pa pn pc ia iN ic).val, (Dat.mk 2 t n2 f2 s2 ro2 rf2 rl2 rc2 pa2 pn2 pc2 ia2 iN2 ic2).val] w fun e w' => e = .returned (.tuple #[(mk 2 t (wrap64 (n.tdiv n2)) 0 ⟨#[]⟩).val, .bool true, .nilIface]) ∧ Below w.heap.size w w' := by
  have h0 : (n2 == 0) = false := by simp [hb]
  have h1 : (n2 != -1) = true := by simp [hb1]
  unfold mk Dat.val
  go_enter Tryz.func188, Tryz.ntmps188
  go_wp2
  go_quiet (fail)
  go_wp2
  go_returns
  refine And.intro rfl ?_
  go_grown
  all_goals (with_reducible refine below_drewN ?_ _)
  go_grown
theorem i_rem (t s : ByteArray) (n f ro rf rl rc : Int) (pa ia : Option Addr) (pn pc iN ic : Nat) (s2 : ByteArray) (n2 f2 ro2 rf2 rl2 rc2 : Int) (pa2 ia2 : Option Addr) (pn2 pc2 iN2 ic2 : Nat) (hb : n2 ≠ 0) (hb1 : n2 ≠ -1) (w : World) : Calls Tryz.prog 188 #[.string ⟨#[37]⟩, (Dat.mk 2 t n f s ro rf rl rc pa pn pc ia iN ic).val, (Dat.mk 2 t n2 f2 s2 ro2 rf2 rl2 rc2 pa2 pn2 pc2 ia2 iN2 ic2).val] w fun e w' => e = .returned (.tuple #[(mk 2 t (wrap64 (n - wrap64 (wrap64 (n.tdiv n2) * n2))) 0 ⟨#[]⟩).val, .bool true, .nilIface]) ∧ Below w.heap.size w w' := by
  have h0 : (n2 == 0) = false := by simp [hb]
  have h1 : (n2 != -1) = true := by simp [hb1]
  unfold mk Dat.val
  go_enter Tryz.func188, Tryz.ntmps188
  go_wp2
  go_quiet (fail)
  go_wp2
  go_returns
  refine And.intro rfl ?_
  go_grown
  all_goals (with_reducible refine below_drewN ?_ _)
  go_grown
theorem i_divm (t s : ByteArray) (n f ro rf rl rc : Int) (pa ia : Option Addr) (pn pc iN ic : Nat) (s2 : ByteArray) (n2 f2 ro2 rf2 rl2 rc2 : Int) (pa2 ia2 : Option Addr) (pn2 pc2 iN2 ic2 : Nat) (w : World) : Calls Tryz.prog 188 #[.string ⟨#[47]⟩, (Dat.mk 2 t n f s ro rf rl rc pa pn pc ia iN ic).val, (Dat.mk 2 t (-1) f2 s2 ro2 rf2 rl2 rc2 pa2 pn2 pc2 ia2 iN2 ic2).val] w fun e w' => e = .returned (.tuple #[(mk 2 t (wrap64 (-n)) 0 ⟨#[]⟩).val, .bool true, .nilIface]) ∧ Below w.heap.size w w' := by
  unfold mk Dat.val
  go_enter Tryz.func188, Tryz.ntmps188
  go_wp2
  go_quiet (fail)
  go_wp2
  go_returns
  refine And.intro rfl ?_
  go_grown
  all_goals (with_reducible refine below_drewN ?_ _)
  go_grown
theorem i_remm (t s : ByteArray) (n f ro rf rl rc : Int) (pa ia : Option Addr) (pn pc iN ic : Nat) (s2 : ByteArray) (n2 f2 ro2 rf2 rl2 rc2 : Int) (pa2 ia2 : Option Addr) (pn2 pc2 iN2 ic2 : Nat) (w : World) : Calls Tryz.prog 188 #[.string ⟨#[37]⟩, (Dat.mk 2 t n f s ro rf rl rc pa pn pc ia iN ic).val, (Dat.mk 2 t (-1) f2 s2 ro2 rf2 rl2 rc2 pa2 pn2 pc2 ia2 iN2 ic2).val] w fun e w' => e = .returned (.tuple #[(mk 2 t (wrap64 (n - wrap64 (-wrap64 (-n)))) 0 ⟨#[]⟩).val, .bool true, .nilIface]) ∧ Below w.heap.size w w' := by
  unfold mk Dat.val
  go_enter Tryz.func188, Tryz.ntmps188
  go_wp2
  go_quiet (fail)
  go_wp2
  go_returns
  refine And.intro rfl ?_
  go_grown
  all_goals (with_reducible refine below_drewN ?_ _)
  go_grown
theorem i_shl (t s : ByteArray) (n f ro rf rl rc : Int) (pa ia : Option Addr) (pn pc iN ic : Nat) (s2 : ByteArray) (n2 f2 ro2 rf2 rl2 rc2 : Int) (pa2 ia2 : Option Addr) (pn2 pc2 iN2 ic2 : Nat) (hb : 0 ≤ n2) (w : World) : Calls Tryz.prog 188 #[.string ⟨#[60, 60]⟩, (Dat.mk 2 t n f s ro rf rl rc pa pn pc ia iN ic).val, (Dat.mk 2 t n2 f2 s2 ro2 rf2 rl2 rc2 pa2 pn2 pc2 ia2 iN2 ic2).val] w fun e w' => e = .returned (.tuple #[(mk 2 t (wrap64 (n * 2 ^ (min n2 64).toNat)) 0 ⟨#[]⟩).val, .bool true, .nilIface]) ∧ Below w.heap.size w w' := by
  unfold mk Dat.val
  go_enter Tryz.func188, Tryz.ntmps188
  go_wp2
  go_quiet (fail)
  go_wp2
  all_goals
    go_returns
    refine And.intro rfl ?_
    go_grown
    all_goals (with_reducible refine below_drewN ?_ _)
    go_grown
theorem i_shr (t s : ByteArray) (n f ro rf rl rc : Int) (pa ia : Option Addr) (pn pc iN ic : Nat) (s2 : ByteArray) (n2 f2 ro2 rf2 rl2 rc2 : Int) (pa2 ia2 : Option Addr) (pn2 pc2 iN2 ic2 : Nat) (hb : 0 ≤ n2) (w : World) : Calls Tryz.prog 188 #[.string ⟨#[62, 62]⟩, (Dat.mk 2 t n f s ro rf rl rc pa pn pc ia iN ic).val, (Dat.mk 2 t n2 f2 s2 ro2 rf2 rl2 rc2 pa2 pn2 pc2 ia2 iN2 ic2).val] w fun e w' => e = .returned (.tuple #[(mk 2 t (n / 2 ^ (min n2 63).toNat) 0 ⟨#[]⟩).val, .bool true, .nilIface]) ∧ Below w.heap.size w w' := by
  unfold mk Dat.val
  go_enter Tryz.func188, Tryz.ntmps188
  go_wp2
  go_quiet (fail)
  go_wp2
  all_goals
    go_returns
    refine And.intro rfl ?_
    go_grown
    all_goals (with_reducible refine below_drewN ?_ _)
    go_grown
theorem i_lt_l (t s : ByteArray) (n f ro rf rl rc : Int) (pa ia : Option Addr) (pn pc iN ic : Nat) (s2 : ByteArray) (n2 f2 ro2 rf2 rl2 rc2 : Int) (pa2 ia2 : Option Addr) (pn2 pc2 iN2 ic2 : Nat) (h : n < n2) (w : World) : Calls Tryz.prog 188 #[.string ⟨#[60]⟩, (Dat.mk 2 t n f s ro rf rl rc pa pn pc ia iN ic).val, (Dat.mk 2 t n2 f2 s2 ro2 rf2 rl2 rc2 pa2 pn2 pc2 ia2 iN2 ic2).val] w fun e w' => e = .returned (.tuple #[(mk 1 ⟨#[98, 111, 111, 108]⟩ 1 0 ⟨#[]⟩).val, .bool true, .nilIface]) ∧ Below w.heap.size w w' := by
  have c1 : decide (n < n2) = true := decide_eq_true h
  clear h
  unfold mk Dat.val
  go_enter Tryz.func188, Tryz.ntmps188
  go_wp2
  go_quiet (fail)
  go_wp2
  go_returns
  refine And.intro rfl ?_
  go_grown
  all_goals (with_reducible refine below_drewN ?_ _)
  go_grown
theorem i_lt_e (t s : ByteArray) (n f ro rf rl rc : Int) (pa ia : Option Addr) (pn pc iN ic : Nat) (s2 : ByteArray) (n2 f2 ro2 rf2 rl2 rc2 : Int) (pa2 ia2 : Option Addr) (pn2 pc2 iN2 ic2 : Nat) (h : n = n2) (w : World) : Calls Tryz.prog 188 #[.string ⟨#[60]⟩, (Dat.mk 2 t n f s ro rf rl rc pa pn pc ia iN ic).val, (Dat.mk 2 t n2 f2 s2 ro2 rf2 rl2 rc2 pa2 pn2 pc2 ia2 iN2 ic2).val] w fun e w' => e = .returned (.tuple #[(mk 1 ⟨#[98, 111, 111, 108]⟩ 0 0 ⟨#[]⟩).val, .bool true, .nilIface]) ∧ Below w.heap.size w w' := by
  subst h
  unfold mk Dat.val
  go_enter Tryz.func188, Tryz.ntmps188
  go_wp2
  go_quiet (fail)
  go_wp2
  go_returns
  refine And.intro rfl ?_
  go_grown
  all_goals (with_reducible refine below_drewN ?_ _)
  go_grown
theorem i_lt_g (t s : ByteArray) (n f ro rf rl rc : Int) (pa ia : Option Addr) (pn pc iN ic : Nat) (s2 : ByteArray) (n2 f2 ro2 rf2 rl2 rc2 : Int) (pa2 ia2 : Option Addr) (pn2 pc2 iN2 ic2 : Nat) (h : n2 < n) (w : World) : Calls Tryz.prog 188 #[.string ⟨#[60]⟩, (Dat.mk 2 t n f s ro rf rl rc pa pn pc ia iN ic).val, (Dat.mk 2 t n2 f2 s2 ro2 rf2 rl2 rc2 pa2 pn2 pc2 ia2 iN2 ic2).val] w fun e w' => e = .returned (.tuple #[(mk 1 ⟨#[98, 111, 111, 108]⟩ 0 0 ⟨#[]⟩).val, .bool true, .nilIface]) ∧ Below w.heap.size w w' := by
  have c1 : decide (n < n2) = false := decide_eq_false (by omega)
  have c2 : decide (n2 < n) = true := decide_eq_true h
  have c3 : ¬ n < n2 := by omega
  clear h
  unfold mk Dat.val
  go_enter Tryz.func188, Tryz.ntmps188
  go_wp2
  go_quiet (fail)
  go_wp2
  go_returns
  refine And.intro rfl ?_
  go_grown
  all_goals (with_reducible refine below_drewN ?_ _)
  go_grown
theorem i_le_l (t s : ByteArray) (n f ro rf rl rc : Int) (pa ia : Option Addr) (pn pc iN ic : Nat) (s2 : ByteArray) (n2 f2 ro2 rf2 rl2 rc2 : Int) (pa2 ia2 : Option Addr) (pn2 pc2 iN2 ic2 : Nat) (h : n < n2) (w : World) : Calls Tryz.prog 188 #[.string ⟨#[60, 61]⟩, (Dat.mk 2 t n f s ro rf rl rc pa pn pc ia iN ic).val, (Dat.mk 2 t n2 f2 s2 ro2 rf2 rl2 rc2 pa2 pn2 pc2 ia2 iN2 ic2).val] w fun e w' => e = .returned (.tuple #[(mk 1 ⟨#[98, 111, 111, 108]⟩ 1 0 ⟨#[]⟩).val, .bool true, .nilIface]) ∧ Below w.heap.size w w' := by
  have c1 : decide (n < n2) = true := decide_eq_true h
  clear h
  unfold mk Dat.val
  go_enter Tryz.func188, Tryz.ntmps188
  go_wp2
  go_quiet (fail)
  go_wp2
  go_returns
  refine And.intro rfl ?_
  go_grown
  all_goals (with_reducible refine below_drewN ?_ _)
  go_grown
theorem i_le_e (t s : ByteArray) (n f ro rf rl rc : Int) (pa ia : Option Addr) (pn pc iN ic : Nat) (s2 : ByteArray) (n2 f2 ro2 rf2 rl2 rc2 : Int) (pa2 ia2 : Option Addr) (pn2 pc2 iN2 ic2 : Nat) (h : n = n2) (w : World) : Calls Tryz.prog 188 #[.string ⟨#[60, 61]⟩, (Dat.mk 2 t n f s ro rf rl rc pa pn pc ia iN ic).val, (Dat.mk 2 t n2 f2 s2 ro2 rf2 rl2 rc2 pa2 pn2 pc2 ia2 iN2 ic2).val] w fun e w' => e = .returned (.tuple #[(mk 1 ⟨#[98, 111, 111, 108]⟩ 1 0 ⟨#[]⟩).val, .bool true, .nilIface]) ∧ Below w.heap.size w w' := by
  subst h
  unfold mk Dat.val
  go_enter Tryz.func188, Tryz.ntmps188
  go_wp2
  go_quiet (fail)
  go_wp2
  go_returns
  refine And.intro rfl ?_
  go_grown
  all_goals (with_reducible refine below_drewN ?_ _)
  go_grown
theorem i_le_g (t s : ByteArray) (n f ro rf rl rc : Int) (pa ia : Option Addr) (pn pc iN ic : Nat) (s2 : ByteArray) (n2 f2 ro2 rf2 rl2 rc2 : Int) (pa2 ia2 : Option Addr) (pn2 pc2 iN2 ic2 : Nat) (h : n2 < n) (w : World) : Calls Tryz.prog 188 #[.string ⟨#[60, 61]⟩, (Dat.mk 2 t n f s ro rf rl rc pa pn pc ia iN ic).val, (Dat.mk 2 t n2 f2 s2 ro2 rf2 rl2 rc2 pa2 pn2 pc2 ia2 iN2 ic2).val] w fun e w' => e = .returned (.tuple #[(mk 1 ⟨#[98, 111, 111, 108]⟩ 0 0 ⟨#[]⟩).val, .bool true, .nilIface]) ∧ Below w.heap.size w w' := by
  have c1 : decide (n < n2) = false := decide_eq_false (by omega)
  have c2 : decide (n2 < n) = true := decide_eq_true h
  have c3 : ¬ n < n2 := by omega
  clear h
  unfold mk Dat.val
  go_enter Tryz.func188, Tryz.ntmps188
  go_wp2
  go_quiet (fail)
  go_wp2
  go_returns
  refine And.intro rfl ?_
  go_grown
  all_goals (with_reducible refine below_drewN ?_ _)
  go_grown
theorem i_gt_l (t s : ByteArray) (n f ro rf rl rc : Int) (pa ia : Option Addr) (pn pc iN ic : Nat) (s2 : ByteArray) (n2 f2 ro2 rf2 rl2 rc2 : Int) (pa2 ia2 : Option Addr) (pn2 pc2 iN2 ic2 : Nat) (h : n < n2) (w : World) : Calls Tryz.prog 188 #[.string ⟨#[62]⟩, (Dat.mk 2 t n f s ro rf rl rc pa pn pc ia iN ic).val, (Dat.mk 2 t n2 f2 s2 ro2 rf2 rl2 rc2 pa2 pn2 pc2 ia2 iN2 ic2).val] w fun e w' => e = .returned (.tuple #[(mk 1 ⟨#[98, 111, 111, 108]⟩ 0 0 ⟨#[]⟩).val, .bool true, .nilIface]) ∧ Below w.heap.size w w' := by
  have c1 : decide (n < n2) = true := decide_eq_true h
  clear h
  unfold mk Dat.val
  go_enter Tryz.func188, Tryz.ntmps188
  go_wp2
  go_quiet (fail)
  go_wp2
  go_returns
  refine And.intro rfl ?_
  go_grown
  all_goals (with_reducible refine below_drewN ?_ _)
  go_grown
theorem i_gt_e (t s : ByteArray) (n f ro rf rl rc : Int) (pa ia : Option Addr) (pn pc iN ic : Nat) (s2 : ByteArray) (n2 f2 ro2 rf2 rl2 rc2 : Int) (pa2 ia2 : Option Addr) (pn2 pc2 iN2 ic2 : Nat) (h : n = n2) (w : World) : Calls Tryz.prog 188 #[.string ⟨#[62]⟩, (Dat.mk 2 t n f s ro rf rl rc pa pn pc ia iN ic).val, (Dat.mk 2 t n2 f2 s2 ro2 rf2 rl2 rc2 pa2 pn2 pc2 ia2 iN2 ic2).val] w fun e w' => e = .returned (.tuple #[(mk 1 ⟨#[98, 111, 111, 108]⟩ 0 0 ⟨#[]⟩).val, .bool true, .nilIface]) ∧ Below w.heap.size w w' := by
  subst h
  unfold mk Dat.val
  go_enter Tryz.func188, Tryz.ntmps188
  go_wp2
  go_quiet (fail)
  go_wp2
  go_returns
  refine And.intro rfl ?_
  go_grown
  all_goals (with_reducible refine below_drewN ?_ _)
  go_grown
theorem i_gt_g (t s : ByteArray) (n f ro rf rl rc : Int) (pa ia : Option Addr) (pn pc iN ic : Nat) (s2 : ByteArray) (n2 f2 ro2 rf2 rl2 rc2 : Int) (pa2 ia2 : Option Addr) (pn2 pc2 iN2 ic2 : Nat) (h : n2 < n) (w : World) : Calls Tryz.prog 188 #[.string ⟨#[62]⟩, (Dat.mk 2 t n f s ro rf rl rc pa pn pc ia iN ic).val, (Dat.mk 2 t n2 f2 s2 ro2 rf2 rl2 rc2 pa2 pn2 pc2 ia2 iN2 ic2).val] w fun e w' => e = .returned (.tuple #[(mk 1 ⟨#[98, 111, 111, 108]⟩ 1 0 ⟨#[]⟩).val, .bool true, .nilIface]) ∧ Below w.heap.size w w' := by
  have c1 : decide (n < n2) = false := decide_eq_false (by omega)
  have c2 : decide (n2 < n) = true := decide_eq_true h
  have c3 : ¬ n < n2 := by omega
  clear h
  unfold mk Dat.val
  go_enter Tryz.func188, Tryz.ntmps188
  go_wp2
  go_quiet (fail)
  go_wp2
  go_returns
  refine And.intro rfl ?_
  go_grown
  all_goals (with_reducible refine below_drewN ?_ _)
  go_grown
theorem i_ge_l (t s : ByteArray) (n f ro rf rl rc : Int) (pa ia : Option Addr) (pn pc iN ic : Nat) (s2 : ByteArray) (n2 f2 ro2 rf2 rl2 rc2 : Int) (pa2 ia2 : Option Addr) (pn2 pc2 iN2 ic2 : Nat) (h : n < n2) (w : World) : Calls Tryz.prog 188 #[.string ⟨#[62, 61]⟩, (Dat.mk 2 t n f s ro rf rl rc pa pn pc ia iN ic).val, (Dat.mk 2 t n2 f2 s2 ro2 rf2 rl2 rc2 pa2 pn2 pc2 ia2 iN2 ic2).val] w fun e w' => e = .returned (.tuple #[(mk 1 ⟨#[98, 111, 111, 108]⟩ 0 0 ⟨#[]⟩).val, .bool true, .nilIface]) ∧ Below w.heap.size w w' := by
  have c1 : decide (n < n2) = true := decide_eq_true h
  clear h
  unfold mk Dat.val
  go_enter Tryz.func188, Tryz.ntmps188
  go_wp2
  go_quiet (fail)
  go_wp2
  go_returns
  refine And.intro rfl ?_
  go_grown
  all_goals (with_reducible refine below_drewN ?_ _)
  go_grown
theorem i_ge_e (t s : ByteArray) (n f ro rf rl rc : Int) (pa ia : Option Addr) (pn pc iN ic : Nat) (s2 : ByteArray) (n2 f2 ro2 rf2 rl2 rc2 : Int) (pa2 ia2 : Option Addr) (pn2 pc2 iN2 ic2 : Nat) (h : n = n2) (w : World) : Calls Tryz.prog 188 #[.string ⟨#[62, 61]⟩, (Dat.mk 2 t n f s ro rf rl rc pa pn pc ia iN ic).val, (Dat.mk 2 t n2 f2 s2 ro2 rf2 rl2 rc2 pa2 pn2 pc2 ia2 iN2 ic2).val] w fun e w' => e = .returned (.tuple #[(mk 1 ⟨#[98, 111, 111, 108]⟩ 1 0 ⟨#[]⟩).val, .bool true, .nilIface]) ∧ Below w.heap.size w w' := by
  subst h
  unfold mk Dat.val
  go_enter Tryz.func188, Tryz.ntmps188
  go_wp2
  go_quiet (fail)
  go_wp2
  go_returns
  refine And.intro rfl ?_
  go_grown
  all_goals (with_reducible refine below_drewN ?_ _)
  go_grown
theorem i_ge_g (t s : ByteArray) (n f ro rf rl rc : Int) (pa ia : Option Addr) (pn pc iN ic : Nat) (s2 : ByteArray) (n2 f2 ro2 rf2 rl2 rc2 : Int) (pa2 ia2 : Option Addr) (pn2 pc2 iN2 ic2 : Nat) (h : n2 < n) (w : World) : Calls Tryz.prog 188 #[.string ⟨#[62, 61]⟩, (Dat.mk 2 t n f s ro rf rl rc pa pn pc ia iN ic).val, (Dat.mk 2 t n2 f2 s2 ro2 rf2 rl2 rc2 pa2 pn2 pc2 ia2 iN2 ic2).val] w fun e w' => e = .returned (.tuple #[(mk 1 ⟨#[98, 111, 111, 108]⟩ 1 0 ⟨#[]⟩).val, .bool true, .nilIface]) ∧ Below w.heap.size w w' := by
  have c1 : decide (n < n2) = false := decide_eq_false (by omega)
  have c2 : decide (n2 < n) = true := decide_eq_true h
  have c3 : ¬ n < n2 := by omega
  clear h
  unfold mk Dat.val
  go_enter Tryz.func188, Tryz.ntmps188
  go_wp2
  go_quiet (fail)
  go_wp2
  go_returns
  refine And.intro rfl ?_
  go_grown
  all_goals (with_reducible refine below_drewN ?_ _)
  go_grown
theorem i_no_l (op : ByteArray) (t s : ByteArray) (n f ro rf rl rc : Int) (pa ia : Option Addr) (pn pc iN ic : Nat) (s2 : ByteArray) (n2 f2 ro2 rf2 rl2 rc2 : Int) (pa2 ia2 : Option Addr) (pn2 pc2 iN2 ic2 : Nat) (h0 : (op.toList == [43]) = false) (h1 : (op.toList == [45]) = false) (h2 : (op.toList == [42]) = false) (h3 : (op.toList == [47]) = false) (h4 : (op.toList == [37]) = false) (h5 : (op.toList == [38]) = false) (h6 : (op.toList == [124]) = false) (h7 : (op.toList == [94]) = false) (h8 : (op.toList == [60, 60]) = false) (h9 : (op.toList == [62, 62]) = false) (h10 : (op.toList == [60, 61]) = false) (h11 : (op.toList == [60]) = false) (h12 : (op.toList == [62, 61]) = false) (h13 : (op.toList == [62]) = false) (h : n < n2) (w : World) : Calls Tryz.prog 188 #[.string op, (Dat.mk 2 t n f s ro rf rl rc pa pn pc ia iN ic).val, (Dat.mk 2 t n2 f2 s2 ro2 rf2 rl2 rc2 pa2 pn2 pc2 ia2 iN2 ic2).val] w fun e w' => e = .returned (.tuple #[(mk 1 ⟨#[98, 111, 111, 108]⟩ 0 0 ⟨#[]⟩).val, .bool false, .nilIface]) ∧ Below w.heap.size w w' := by
  have c1 : decide (n < n2) = true := decide_eq_true h
  clear h
  unfold mk Dat.val
  go_enter Tryz.func188, Tryz.ntmps188
  go_wp2
  go_quiet (fail)
  go_wp2
  go_returns
  refine And.intro rfl ?_
  go_grown
  all_goals (with_reducible refine below_drewN ?_ _)
  go_grown
theorem i_no_g (op : ByteArray) (t s : ByteArray) (n f ro rf rl rc : Int) (pa ia : Option Addr) (pn pc iN ic : Nat) (s2 : ByteArray) (n2 f2 ro2 rf2 rl2 rc2 : Int) (pa2 ia2 : Option Addr) (pn2 pc2 iN2 ic2 : Nat) (h0 : (op.toList == [43]) = false) (h1 : (op.toList == [45]) = false) (h2 : (op.toList == [42]) = false) (h3 : (op.toList == [47]) = false) (h4 : (op.toList == [37]) = false) (h5 : (op.toList == [38]) = false) (h6 : (op.toList == [124]) = false) (h7 : (op.toList == [94]) = false) (h8 : (op.toList == [60, 60]) = false) (h9 : (op.toList == [62, 62]) = false) (h10 : (op.toList == [60, 61]) = false) (h11 : (op.toList == [60]) = false) (h12 : (op.toList == [62, 61]) = false) (h13 : (op.toList == [62]) = false) (h : n2 < n) (w : World) : Calls Tryz.prog 188 #[.string op, (Dat.mk 2 t n f s ro rf rl rc pa pn pc ia iN ic).val, (Dat.mk 2 t n2 f2 s2 ro2 rf2 rl2 rc2 pa2 pn2 pc2 ia2 iN2 ic2).val] w fun e w' => e = .returned (.tuple #[(mk 1 ⟨#[98, 111, 111, 108]⟩ 0 0 ⟨#[]⟩).val, .bool false, .nilIface]) ∧ Below w.heap.size w w' := by
  have c1 : decide (n < n2) = false := decide_eq_false (by omega)
  have c2 : decide (n2 < n) = true := decide_eq_true h
  have c3 : ¬ n < n2 := by omega
  clear h
  unfold mk Dat.val
  go_enter Tryz.func188, Tryz.ntmps188
  go_wp2
  go_quiet (fail)
  go_wp2
  go_returns
  refine And.intro rfl ?_
  go_grown
  all_goals (with_reducible refine below_drewN ?_ _)
  go_grown
theorem i_no_e (op : ByteArray) (t s : ByteArray) (n f ro rf rl rc : Int) (pa ia : Option Addr) (pn pc iN ic : Nat) (s2 : ByteArray) (n2 f2 ro2 rf2 rl2 rc2 : Int) (pa2 ia2 : Option Addr) (pn2 pc2 iN2 ic2 : Nat) (h0 : (op.toList == [43]) = false) (h1 : (op.toList == [45]) = false) (h2 : (op.toList == [42]) = false) (h3 : (op.toList == [47]) = false) (h4 : (op.toList == [37]) = false) (h5 : (op.toList == [38]) = false) (h6 : (op.toList == [124]) = false) (h7 : (op.toList == [94]) = false) (h8 : (op.toList == [60, 60]) = false) (h9 : (op.toList == [62, 62]) = false) (h10 : (op.toList == [60, 61]) = false) (h11 : (op.toList == [60]) = false) (h12 : (op.toList == [62, 61]) = false) (h13 : (op.toList == [62]) = false) (h : n = n2) (w : World) : Calls Tryz.prog 188 #[.string op, (Dat.mk 2 t n f s ro rf rl rc pa pn pc ia iN ic).val, (Dat.mk 2 t n2 f2 s2 ro2 rf2 rl2 rc2 pa2 pn2 pc2 ia2 iN2 ic2).val] w fun e w' => e = .returned (.tuple #[(mk 1 ⟨#[98, 111, 111, 108]⟩ 0 0 ⟨#[]⟩).val, .bool false, .nilIface]) ∧ Below w.heap.size w w' := by
  subst h
  unfold mk Dat.val
  go_enter Tryz.func188, Tryz.ntmps188
  go_wp2
  go_quiet (fail)
  go_wp2
  go_returns
  refine And.intro rfl ?_
  go_grown
  all_goals (with_reducible refine below_drewN ?_ _)
  go_grown
end Go.Proofs.YtmecmlpoallpcaaGreatDoor
