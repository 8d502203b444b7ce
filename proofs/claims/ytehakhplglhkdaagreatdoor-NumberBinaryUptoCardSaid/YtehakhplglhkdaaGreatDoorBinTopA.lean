/- NumberBinary of any arguments. Conditions: the arguments fit their kinds; the texts are short; what strconv reads of the package's variables. -/
import Derived.Test.YtehakhplglhkdaaGreatDoorBinLaw
import Derived.Test.YtehakhplglhkdaaGreatDoorRefBinA
import Derived.Test.YtehakhplglhkdaaGreatDoorRefBinB
import Derived.Test.YtehakhplglhkdaaGreatDoorRefBinC
import Derived.Test.YtehakhplglhkdaaGreatDoorRefBinD
import Derived.Test.YtehakhplglhkdaaGreatDoorRefBinE
import Derived.Test.YtehakhplglhkdaaGreatDoorRefBinF
import Derived.Test.YtehakhplglhkdaaGreatDoorRefInts
import Derived.Test.YtehakhplglhkdaaGreatDoorRefOrder
import Derived.Test.YtehakhplglhkdaaGreatDoorBin17E
import Derived.Test.YtehakhplglhkdaaGreatDoorBin43
import Derived.Test.YtehakhplglhkdaaGreatDoorBin3G
import Derived.Test.YtehakhplglhkdaaGreatDoorIntsA
import Derived.Test.YtehakhplglhkdaaGreatDoorIntsB
import Derived.Test.YtehakhplglhkdaaGreatDoorIntsC
import Derived.Test.YtehakhplglhkdaaGreatDoorIntsD
import Derived.Test.YtehakhplglhkdaaGreatDoorUnaryTop
namespace Go.Proofs.YtehakhplglhkdaaGreatDoor
set_option linter.unusedVariables false
open Go.RowKit

theorem sOp_ne : (sOperand.toList == []) = false := by rw [ByteArray.toList_eq]; rfl
theorem sCount_ne : (sCount.toList == []) = false := by rw [ByteArray.toList_eq]; rfl
theorem sDiv_ne : (sDivide.toList == []) = false := by rw [ByteArray.toList_eq]; rfl
theorem bne_of {a : List UInt8} {b : List UInt8} (h : (a == b) = false) : (a != b) = true := by simp only [bne, h]; rfl
theorem no_op2 (op : ByteArray) (t s : ByteArray) (n f ro rf rl rc : Int) (pa ia : Option Addr) (pn pc iN ic : Nat) (s2 : ByteArray) (n2 f2 ro2 rf2 rl2 rc2 : Int) (pa2 ia2 : Option Addr) (pn2 pc2 iN2 ic2 : Nat) (d : Dat) (w : World) (hG : Glob w) (hs : op.size + t.size + t.size ≤ 3000000)
    (hf : ∀ w, Calls Tryz.prog 43 #[.string op, (Dat.mk 2 t n f s ro rf rl rc pa pn pc ia iN ic).val, (Dat.mk 2 t n2 f2 s2 ro2 rf2 rl2 rc2 pa2 pn2 pc2 ia2 iN2 ic2).val] w fun e w' => e = .returned (.tuple #[d.val, .bool false, .nilIface]) ∧ Below w.heap.size w w')
    (hR : ∀ w, Calls Tryz.prog 18 #[.string op, (Dat.mk 2 t n f s ro rf rl rc pa pn pc ia iN ic).val, (Dat.mk 2 t n2 f2 s2 ro2 rf2 rl2 rc2 pa2 pn2 pc2 ia2 iN2 ic2).val] w fun e w' => e = .returned (.tuple #[zeroD.val, .agg #[.string sOperand, .string (op ++ ⟨#[32]⟩ ++ nameOf (Dat.mk 2 t n f s ro rf rl rc pa pn pc ia iN ic) ++ ⟨#[32]⟩ ++ nameOf (Dat.mk 2 t n2 f2 s2 ro2 rf2 rl2 rc2 pa2 pn2 pc2 ia2 iN2 ic2))]]) ∧ Below w.heap.size w w') :
    Calls Tryz.prog 4 #[.string op, (Dat.mk 2 t n f s ro rf rl rc pa pn pc ia iN ic).val, (Dat.mk 2 t n2 f2 s2 ro2 rf2 rl2 rc2 pa2 pn2 pc2 ia2 iN2 ic2).val] w fun e w' => e = .returned (.bool true) ∧ Below w.heap.size w w' :=
  binLaw_fault op t t s s2 2 2 n f ro rf rl rc n2 f2 ro2 rf2 rl2 rc2 pa ia pa2 ia2 pn pc iN ic pn2 pc2 iN2 ic2 0 0 0 ⟨#[]⟩ ⟨#[]⟩ sOperand _ sOp_ne w hG (fun W _ => bin17_no op 2 t s n f ro rf rl rc pa ia pn pc iN ic s2 n2 f2 ro2 rf2 rl2 rc2 pa2 ia2 pn2 pc2 iN2 ic2 d W hs hf) hR
theorem no_op3 (op : ByteArray) (t s : ByteArray) (n f ro rf rl rc : Int) (pa ia : Option Addr) (pn pc iN ic : Nat) (s2 : ByteArray) (n2 f2 ro2 rf2 rl2 rc2 : Int) (pa2 ia2 : Option Addr) (pn2 pc2 iN2 ic2 : Nat) (d : Dat) (w : World) (hG : Glob w) (hs : op.size + t.size + t.size ≤ 3000000)
    (hf : ∀ w, Calls Tryz.prog 43 #[.string op, (Dat.mk 3 t n f s ro rf rl rc pa pn pc ia iN ic).val, (Dat.mk 3 t n2 f2 s2 ro2 rf2 rl2 rc2 pa2 pn2 pc2 ia2 iN2 ic2).val] w fun e w' => e = .returned (.tuple #[d.val, .bool false, .nilIface]) ∧ Below w.heap.size w w')
    (hR : ∀ w, Calls Tryz.prog 18 #[.string op, (Dat.mk 3 t n f s ro rf rl rc pa pn pc ia iN ic).val, (Dat.mk 3 t n2 f2 s2 ro2 rf2 rl2 rc2 pa2 pn2 pc2 ia2 iN2 ic2).val] w fun e w' => e = .returned (.tuple #[zeroD.val, .agg #[.string sOperand, .string (op ++ ⟨#[32]⟩ ++ nameOf (Dat.mk 3 t n f s ro rf rl rc pa pn pc ia iN ic) ++ ⟨#[32]⟩ ++ nameOf (Dat.mk 3 t n2 f2 s2 ro2 rf2 rl2 rc2 pa2 pn2 pc2 ia2 iN2 ic2))]]) ∧ Below w.heap.size w w') :
    Calls Tryz.prog 4 #[.string op, (Dat.mk 3 t n f s ro rf rl rc pa pn pc ia iN ic).val, (Dat.mk 3 t n2 f2 s2 ro2 rf2 rl2 rc2 pa2 pn2 pc2 ia2 iN2 ic2).val] w fun e w' => e = .returned (.bool true) ∧ Below w.heap.size w w' :=
  binLaw_fault op t t s s2 3 3 n f ro rf rl rc n2 f2 ro2 rf2 rl2 rc2 pa ia pa2 ia2 pn pc iN ic pn2 pc2 iN2 ic2 0 0 0 ⟨#[]⟩ ⟨#[]⟩ sOperand _ sOp_ne w hG (fun W _ => bin17_no op 3 t s n f ro rf rl rc pa ia pn pc iN ic s2 n2 f2 ro2 rf2 rl2 rc2 pa2 ia2 pn2 pc2 iN2 ic2 d W hs hf) hR
theorem no_op4 (op : ByteArray) (t s : ByteArray) (n f ro rf rl rc : Int) (pa ia : Option Addr) (pn pc iN ic : Nat) (s2 : ByteArray) (n2 f2 ro2 rf2 rl2 rc2 : Int) (pa2 ia2 : Option Addr) (pn2 pc2 iN2 ic2 : Nat) (d : Dat) (w : World) (hG : Glob w) (hs : op.size + t.size + t.size ≤ 3000000)
    (hf : ∀ w, Calls Tryz.prog 43 #[.string op, (Dat.mk 4 t n f s ro rf rl rc pa pn pc ia iN ic).val, (Dat.mk 4 t n2 f2 s2 ro2 rf2 rl2 rc2 pa2 pn2 pc2 ia2 iN2 ic2).val] w fun e w' => e = .returned (.tuple #[d.val, .bool false, .nilIface]) ∧ Below w.heap.size w w')
    (hR : ∀ w, Calls Tryz.prog 18 #[.string op, (Dat.mk 4 t n f s ro rf rl rc pa pn pc ia iN ic).val, (Dat.mk 4 t n2 f2 s2 ro2 rf2 rl2 rc2 pa2 pn2 pc2 ia2 iN2 ic2).val] w fun e w' => e = .returned (.tuple #[zeroD.val, .agg #[.string sOperand, .string (op ++ ⟨#[32]⟩ ++ nameOf (Dat.mk 4 t n f s ro rf rl rc pa pn pc ia iN ic) ++ ⟨#[32]⟩ ++ nameOf (Dat.mk 4 t n2 f2 s2 ro2 rf2 rl2 rc2 pa2 pn2 pc2 ia2 iN2 ic2))]]) ∧ Below w.heap.size w w') :
    Calls Tryz.prog 4 #[.string op, (Dat.mk 4 t n f s ro rf rl rc pa pn pc ia iN ic).val, (Dat.mk 4 t n2 f2 s2 ro2 rf2 rl2 rc2 pa2 pn2 pc2 ia2 iN2 ic2).val] w fun e w' => e = .returned (.bool true) ∧ Below w.heap.size w w' :=
  binLaw_fault op t t s s2 4 4 n f ro rf rl rc n2 f2 ro2 rf2 rl2 rc2 pa ia pa2 ia2 pn pc iN ic pn2 pc2 iN2 ic2 0 0 0 ⟨#[]⟩ ⟨#[]⟩ sOperand _ sOp_ne w hG (fun W _ => bin17_no op 4 t s n f ro rf rl rc pa ia pn pc iN ic s2 n2 f2 ro2 rf2 rl2 rc2 pa2 ia2 pn2 pc2 iN2 ic2 d W hs hf) hR
theorem cmp_law2 (op : ByteArray) (t s : ByteArray) (n f ro rf rl rc : Int) (pa ia : Option Addr) (pn pc iN ic : Nat) (s2 : ByteArray) (n2 f2 ro2 rf2 rl2 rc2 : Int) (pa2 ia2 : Option Addr) (pn2 pc2 iN2 ic2 : Nat) (be ab kn r : Bool) (w : World) (hG : Glob w)
    (h43 : ∀ w, Calls Tryz.prog 43 #[.string op, (Dat.mk 2 t n f s ro rf rl rc pa pn pc ia iN ic).val, (Dat.mk 2 t n2 f2 s2 ro2 rf2 rl2 rc2 pa2 pn2 pc2 ia2 iN2 ic2).val] w fun e w' => e = .returned (.tuple #[(yes r).val, .bool true, .nilIface]) ∧ Below w.heap.size w w')
    (hO : ∀ w, Calls Tryz.prog 45 #[(Dat.mk 2 t n f s ro rf rl rc pa pn pc ia iN ic).val, (Dat.mk 2 t n2 f2 s2 ro2 rf2 rl2 rc2 pa2 pn2 pc2 ia2 iN2 ic2).val] w fun e w' => e = .returned (.tuple #[.bool be, .bool ab, .bool kn]) ∧ Below w.heap.size w w')
    (hW : ∀ w, Calls Tryz.prog 46 #[.string op, .bool be, .bool ab, .bool kn] w fun e w' => e = .returned (.tuple #[.bool r, .bool true]) ∧ w' = w) :
    Calls Tryz.prog 4 #[.string op, (Dat.mk 2 t n f s ro rf rl rc pa pn pc ia iN ic).val, (Dat.mk 2 t n2 f2 s2 ro2 rf2 rl2 rc2 pa2 pn2 pc2 ia2 iN2 ic2).val] w fun e w' => e = .returned (.bool true) ∧ Below w.heap.size w w' :=
  binLaw_ok op t t s s2 2 2 n f ro rf rl rc n2 f2 ro2 rf2 rl2 rc2 pa ia pa2 ia2 pn pc iN ic pn2 pc2 iN2 ic2 1 (if r then 1 else 0) 0 sBool ⟨#[]⟩ w hG (fun w => bin17_ok op (Dat.mk 2 t n f s ro rf rl rc pa pn pc ia iN ic) (Dat.mk 2 t n2 f2 s2 ro2 rf2 rl2 rc2 pa2 pn2 pc2 ia2 iN2 ic2) (yes r) rfl rfl w h43) (fun w => rb_cmp2 op t s n f ro rf rl rc pa ia pn pc iN ic s2 n2 f2 ro2 rf2 rl2 rc2 pa2 ia2 pn2 pc2 iN2 ic2 be ab kn r w hO hW)
theorem cmp_law3 (op : ByteArray) (t s : ByteArray) (n f ro rf rl rc : Int) (pa ia : Option Addr) (pn pc iN ic : Nat) (s2 : ByteArray) (n2 f2 ro2 rf2 rl2 rc2 : Int) (pa2 ia2 : Option Addr) (pn2 pc2 iN2 ic2 : Nat) (be ab kn r : Bool) (w : World) (hG : Glob w)
    (h43 : ∀ w, Calls Tryz.prog 43 #[.string op, (Dat.mk 3 t n f s ro rf rl rc pa pn pc ia iN ic).val, (Dat.mk 3 t n2 f2 s2 ro2 rf2 rl2 rc2 pa2 pn2 pc2 ia2 iN2 ic2).val] w fun e w' => e = .returned (.tuple #[(yes r).val, .bool true, .nilIface]) ∧ Below w.heap.size w w')
    (hO : ∀ w, Calls Tryz.prog 45 #[(Dat.mk 3 t n f s ro rf rl rc pa pn pc ia iN ic).val, (Dat.mk 3 t n2 f2 s2 ro2 rf2 rl2 rc2 pa2 pn2 pc2 ia2 iN2 ic2).val] w fun e w' => e = .returned (.tuple #[.bool be, .bool ab, .bool kn]) ∧ Below w.heap.size w w')
    (hW : ∀ w, Calls Tryz.prog 46 #[.string op, .bool be, .bool ab, .bool kn] w fun e w' => e = .returned (.tuple #[.bool r, .bool true]) ∧ w' = w) :
    Calls Tryz.prog 4 #[.string op, (Dat.mk 3 t n f s ro rf rl rc pa pn pc ia iN ic).val, (Dat.mk 3 t n2 f2 s2 ro2 rf2 rl2 rc2 pa2 pn2 pc2 ia2 iN2 ic2).val] w fun e w' => e = .returned (.bool true) ∧ Below w.heap.size w w' :=
  binLaw_ok op t t s s2 3 3 n f ro rf rl rc n2 f2 ro2 rf2 rl2 rc2 pa ia pa2 ia2 pn pc iN ic pn2 pc2 iN2 ic2 1 (if r then 1 else 0) 0 sBool ⟨#[]⟩ w hG (fun w => bin17_ok op (Dat.mk 3 t n f s ro rf rl rc pa pn pc ia iN ic) (Dat.mk 3 t n2 f2 s2 ro2 rf2 rl2 rc2 pa2 pn2 pc2 ia2 iN2 ic2) (yes r) rfl rfl w h43) (fun w => rb_cmp3 op t s n f ro rf rl rc pa ia pn pc iN ic s2 n2 f2 ro2 rf2 rl2 rc2 pa2 ia2 pn2 pc2 iN2 ic2 be ab kn r w hO hW)
theorem cmp_law4 (op : ByteArray) (t s : ByteArray) (n f ro rf rl rc : Int) (pa ia : Option Addr) (pn pc iN ic : Nat) (s2 : ByteArray) (n2 f2 ro2 rf2 rl2 rc2 : Int) (pa2 ia2 : Option Addr) (pn2 pc2 iN2 ic2 : Nat) (be ab kn r : Bool) (w : World) (hG : Glob w)
    (h43 : ∀ w, Calls Tryz.prog 43 #[.string op, (Dat.mk 4 t n f s ro rf rl rc pa pn pc ia iN ic).val, (Dat.mk 4 t n2 f2 s2 ro2 rf2 rl2 rc2 pa2 pn2 pc2 ia2 iN2 ic2).val] w fun e w' => e = .returned (.tuple #[(yes r).val, .bool true, .nilIface]) ∧ Below w.heap.size w w')
    (hO : ∀ w, Calls Tryz.prog 45 #[(Dat.mk 4 t n f s ro rf rl rc pa pn pc ia iN ic).val, (Dat.mk 4 t n2 f2 s2 ro2 rf2 rl2 rc2 pa2 pn2 pc2 ia2 iN2 ic2).val] w fun e w' => e = .returned (.tuple #[.bool be, .bool ab, .bool kn]) ∧ Below w.heap.size w w')
    (hW : ∀ w, Calls Tryz.prog 46 #[.string op, .bool be, .bool ab, .bool kn] w fun e w' => e = .returned (.tuple #[.bool r, .bool true]) ∧ w' = w) :
    Calls Tryz.prog 4 #[.string op, (Dat.mk 4 t n f s ro rf rl rc pa pn pc ia iN ic).val, (Dat.mk 4 t n2 f2 s2 ro2 rf2 rl2 rc2 pa2 pn2 pc2 ia2 iN2 ic2).val] w fun e w' => e = .returned (.bool true) ∧ Below w.heap.size w w' :=
  binLaw_ok op t t s s2 4 4 n f ro rf rl rc n2 f2 ro2 rf2 rl2 rc2 pa ia pa2 ia2 pn pc iN ic pn2 pc2 iN2 ic2 1 (if r then 1 else 0) 0 sBool ⟨#[]⟩ w hG (fun w => bin17_ok op (Dat.mk 4 t n f s ro rf rl rc pa pn pc ia iN ic) (Dat.mk 4 t n2 f2 s2 ro2 rf2 rl2 rc2 pa2 pn2 pc2 ia2 iN2 ic2) (yes r) rfl rfl w h43) (fun w => rb_cmp4 op t s n f ro rf rl rc pa ia pn pc iN ic s2 n2 f2 ro2 rf2 rl2 rc2 pa2 ia2 pn2 pc2 iN2 ic2 be ab kn r w hO hW)
theorem int_law (op : ByteArray) (t s : ByteArray) (n f ro rf rl rc : Int) (pa ia : Option Addr) (pn pc iN ic : Nat) (s2 : ByteArray) (n2 f2 ro2 rf2 rl2 rc2 : Int) (pa2 ia2 : Option Addr) (pn2 pc2 iN2 ic2 : Nat) (be ab kn is : Bool) (v : Int) (w : World) (hG : Glob w)
    (h68 : ∀ w, Calls Tryz.prog 68 #[.string op, (Dat.mk 2 t n f s ro rf rl rc pa pn pc ia iN ic).val, (Dat.mk 2 t n2 f2 s2 ro2 rf2 rl2 rc2 pa2 pn2 pc2 ia2 iN2 ic2).val] w fun e w' => e = .returned (.tuple #[(mk 2 t v 0 ⟨#[]⟩).val, .bool true, .nilIface]) ∧ Below w.heap.size w w')
    (hO : ∀ w, Calls Tryz.prog 45 #[(Dat.mk 2 t n f s ro rf rl rc pa pn pc ia iN ic).val, (Dat.mk 2 t n2 f2 s2 ro2 rf2 rl2 rc2 pa2 pn2 pc2 ia2 iN2 ic2).val] w fun e w' => e = .returned (.tuple #[.bool be, .bool ab, .bool kn]) ∧ Below w.heap.size w w')
    (hW : ∀ w, Calls Tryz.prog 46 #[.string op, .bool be, .bool ab, .bool kn] w fun e w' => e = .returned (.tuple #[.bool is, .bool false]) ∧ w' = w)
    (hI : ∀ w, Calls Tryz.prog 48 #[.string op, .int .i64 n, .int .i64 n2] w fun e w' => e = .returned (.tuple #[.int .i64 v, .agg #[.string ⟨#[]⟩, .string ⟨#[]⟩], .bool true]) ∧ Below w.heap.size w w') :
    Calls Tryz.prog 4 #[.string op, (Dat.mk 2 t n f s ro rf rl rc pa pn pc ia iN ic).val, (Dat.mk 2 t n2 f2 s2 ro2 rf2 rl2 rc2 pa2 pn2 pc2 ia2 iN2 ic2).val] w fun e w' => e = .returned (.bool true) ∧ Below w.heap.size w w' :=
  binLaw_ok op t t s s2 2 2 n f ro rf rl rc n2 f2 ro2 rf2 rl2 rc2 pa ia pa2 ia2 pn pc iN ic pn2 pc2 iN2 ic2 2 v 0 t ⟨#[]⟩ w hG (fun w => bin17_ok op (Dat.mk 2 t n f s ro rf rl rc pa pn pc ia iN ic) (Dat.mk 2 t n2 f2 s2 ro2 rf2 rl2 rc2 pa2 pn2 pc2 ia2 iN2 ic2) (mk 2 t v 0 ⟨#[]⟩) rfl rfl w fun w => b43_ok op t s n f ro rf rl rc pa ia pn pc iN ic s2 n2 f2 ro2 rf2 rl2 rc2 pa2 ia2 pn2 pc2 iN2 ic2 (mk 2 t v 0 ⟨#[]⟩) true w h68) (fun w => rb_int_ok op t s n f ro rf rl rc pa ia pn pc iN ic s2 n2 f2 ro2 rf2 rl2 rc2 pa2 ia2 pn2 pc2 iN2 ic2 be ab kn is v w hO hW hI)
theorem int_fault (op x y : ByteArray) (t s : ByteArray) (n f ro rf rl rc : Int) (pa ia : Option Addr) (pn pc iN ic : Nat) (s2 : ByteArray) (n2 f2 ro2 rf2 rl2 rc2 : Int) (pa2 ia2 : Option Addr) (pn2 pc2 iN2 ic2 : Nat) (be ab kn is : Bool) (v : Int) (w : World) (hG : Glob w) (hx : (x.toList == []) = false)
    (h68 : ∀ W, Below w.heap.size w W → Calls Tryz.prog 68 #[.string op, (Dat.mk 2 t n f s ro rf rl rc pa pn pc ia iN ic).val, (Dat.mk 2 t n2 f2 s2 ro2 rf2 rl2 rc2 pa2 pn2 pc2 ia2 iN2 ic2).val] W fun e w' => ∃ v, e = .returned (.tuple #[zeroD.val, .bool false, v]) ∧ IsFault W w' v x y ∧ Below W.heap.size W w')
    (hO : ∀ w, Calls Tryz.prog 45 #[(Dat.mk 2 t n f s ro rf rl rc pa pn pc ia iN ic).val, (Dat.mk 2 t n2 f2 s2 ro2 rf2 rl2 rc2 pa2 pn2 pc2 ia2 iN2 ic2).val] w fun e w' => e = .returned (.tuple #[.bool be, .bool ab, .bool kn]) ∧ Below w.heap.size w w')
    (hW : ∀ w, Calls Tryz.prog 46 #[.string op, .bool be, .bool ab, .bool kn] w fun e w' => e = .returned (.tuple #[.bool is, .bool false]) ∧ w' = w)
    (hI : ∀ w, Calls Tryz.prog 48 #[.string op, .int .i64 n, .int .i64 n2] w fun e w' => e = .returned (.tuple #[.int .i64 v, .agg #[.string x, .string y], .bool true]) ∧ Below w.heap.size w w') :
    Calls Tryz.prog 4 #[.string op, (Dat.mk 2 t n f s ro rf rl rc pa pn pc ia iN ic).val, (Dat.mk 2 t n2 f2 s2 ro2 rf2 rl2 rc2 pa2 pn2 pc2 ia2 iN2 ic2).val] w fun e w' => e = .returned (.bool true) ∧ Below w.heap.size w w' :=
  binLaw_fault op t t s s2 2 2 n f ro rf rl rc n2 f2 ro2 rf2 rl2 rc2 pa ia pa2 ia2 pn pc iN ic pn2 pc2 iN2 ic2 0 0 0 ⟨#[]⟩ ⟨#[]⟩ x y hx w hG
    (fun W hW1 => bin17_err op x y 2 t s n f ro rf rl rc pa ia pn pc iN ic s2 n2 f2 ro2 rf2 rl2 rc2 pa2 ia2 pn2 pc2 iN2 ic2 W fun W2 hW2 => b43_err op x y t s n f ro rf rl rc pa ia pn pc iN ic s2 n2 f2 ro2 rf2 rl2 rc2 pa2 ia2 pn2 pc2 iN2 ic2 W2 fun W3 hW3 => h68 W3 (below_more (below_more hW1 hW2 hW1.size) hW3 (below_more hW1 hW2 hW1.size).size))
    (fun w => rb_int_flt op x y t s n f ro rf rl rc pa ia pn pc iN ic s2 n2 f2 ro2 rf2 rl2 rc2 pa2 ia2 pn2 pc2 iN2 ic2 be ab kn is v hx (bne_of hx) w hO hW hI)
end Go.Proofs.YtehakhplglhkdaaGreatDoor
