/- guiseref6.Binary where the operation is a comparison. Conditions: as said. -/
import Derived.Test.YtehakhplglhkdaaGreatDoorRefA
import Derived.Test.YtehakhplglhkdaaGreatDoorYes
import Derived.Test.YtehakhplglhkdaaGreatDoorBin43
namespace Go.Proofs.YtehakhplglhkdaaGreatDoor
set_option linter.unusedVariables false
open Go.RowKit

set_option maxRecDepth 200000 in
set_option maxHeartbeats 2000000 in
theorem refbool_any (is : Bool) (w : World) : Calls Tryz.prog 47 #[.bool is] w fun e w' => e = .returned (yes is).val ∧ Below w.heap.size w w' := by
  unfold yes sBool mk Dat.val
  cases is <;>
  · go_enter Tryz.func47, Tryz.ntmps47
    go_wp2
    go_returns
    exact ⟨rfl, by go_grown⟩
set_option maxRecDepth 200000 in
set_option maxHeartbeats 4000000 in
theorem rb_cmp2 (op : ByteArray) (t s : ByteArray) (n f ro rf rl rc : Int) (pa ia : Option Addr) (pn pc iN ic : Nat) (s2 : ByteArray) (n2 f2 ro2 rf2 rl2 rc2 : Int) (pa2 ia2 : Option Addr) (pn2 pc2 iN2 ic2 : Nat) (be ab kn is : Bool) (w : World)
    (hO : ∀ w, Calls Tryz.prog 45 #[(Dat.mk 2 t n f s ro rf rl rc pa pn pc ia iN ic).val, (Dat.mk 2 t n2 f2 s2 ro2 rf2 rl2 rc2 pa2 pn2 pc2 ia2 iN2 ic2).val] w fun e w' => e = .returned (.tuple #[.bool be, .bool ab, .bool kn]) ∧ Below w.heap.size w w')
    (hW : ∀ w, Calls Tryz.prog 46 #[.string op, .bool be, .bool ab, .bool kn] w fun e w' => e = .returned (.tuple #[.bool is, .bool true]) ∧ w' = w) :
    Calls Tryz.prog 18 #[.string op, (Dat.mk 2 t n f s ro rf rl rc pa pn pc ia iN ic).val, (Dat.mk 2 t n2 f2 s2 ro2 rf2 rl2 rc2 pa2 pn2 pc2 ia2 iN2 ic2).val] w fun e w' => e = .returned (.tuple #[(yes is).val, .agg #[.string ⟨#[]⟩, .string ⟨#[]⟩]]) ∧ Below w.heap.size w w' := by
  have HO := Lib.hid hO
  have HW := Lib.hid hW
  clear hO hW
  have HB47 := Lib.hid fun w => refbool_any is w
  unfold Dat.val at *
  go_enter Tryz.func18, Tryz.ntmps18
  go_wp2_with (first
    | (go_at_call 45; refine (HO.out _).mono ?_; rintro en w2 ⟨rfl, hb⟩
       have RA : Hid (Row w2 w.heap.size 28 [.int .i64 2, .string t, .int .i64 n, .int .u64 f, .string s, .int .i64 ro, .int .i64 rf, .int .i64 rl, .int .i64 rc, .slice pa pn pc, .slice ia iN ic]) := ((((Row.made w 28 [.int .i64 2, .string t, .int .i64 n, .int .u64 f, .string s, .int .i64 ro, .int .i64 rf, .int .i64 rl, .int .i64 rc, .slice pa pn pc, .slice ia iN ic]).alloc _).alloc _).alloc _).below hb (by simp <;> omega)
       have RB : Hid (Row w2 (w.heap.size + 1) 28 [.int .i64 2, .string t, .int .i64 n2, .int .u64 f2, .string s2, .int .i64 ro2, .int .i64 rf2, .int .i64 rl2, .int .i64 rc2, .slice pa2 pn2 pc2, .slice ia2 iN2 ic2]) := (((row_atOne w _ 28 [.int .i64 2, .string t, .int .i64 n2, .int .u64 f2, .string s2, .int .i64 ro2, .int .i64 rf2, .int .i64 rl2, .int .i64 rc2, .slice pa2 pn2 pc2, .slice ia2 iN2 ic2]).alloc _).alloc _).below hb (by simp <;> omega)
       have R6 : Hid (Row w2 (w.heap.size + 1 + 1) 28 zeroC) := ((row_at2 w _ _ 28 zeroC).alloc _).below hb (by simp <;> omega)
       have R7 : Hid (Row w2 (w.heap.size + 1 + 1 + 1) 35 [.string ⟨#[]⟩, .string ⟨#[]⟩]) := (row_at3 w _ _ _ 35 [.string ⟨#[]⟩, .string ⟨#[]⟩]).below hb (by simp <;> omega)
       have HB2 : Hid (Below w.heap.size w w2) := below_more (below4 w _ _ _ _) hb (by simp <;> omega)
       obtain ⟨p0, p1, p2, p3, p4, p5, p6, p7, p8, p9, p10, pf⟩ := row11 RA.out
       obtain ⟨q0, q1, q2, q3, q4, q5, q6, q7, q8, q9, q10, qf⟩ := row11 RB.out
       clear hb HO)
    | (go_at_call 46; refine (HW.out _).mono ?_; rintro en wx ⟨rfl, hx⟩; have hy := hx.symm; clear hx; subst hy; clear HW)
    | (go_at_call 47; refine (HB47.out _).mono ?_; rintro en w3 ⟨rfl, hb⟩
       replace R6 : Hid (Row w3 (w.heap.size + 1 + 1) 28 zeroC) := R6.out.below hb R6.out.lt
       replace R7 : Hid (Row w3 (w.heap.size + 1 + 1 + 1) 35 [.string ⟨#[]⟩, .string ⟨#[]⟩]) := R7.out.below hb R7.out.lt
       have HB3 : Hid (Below w.heap.size w w3) := below_more HB2.out hb HB2.out.size
       clear hb HB47 HB2 RA RB p0 p1 p2 p3 p4 p5 p6 p7 p8 p9 p10 pf q0 q1 q2 q3 q4 q5 q6 q7 q8 q9 q10 qf)
    | (refine put_dat (.tmp 6) (.tmp 68) (w.heap.size + 1 + 1) zeroC (yes is).cells _ rfl rfl rfl rfl R6.out rfl rfl rfl ?_; intro w5 hr5 hb5 hf5
       have HB5 : Hid (Below w.heap.size w w5) := HB3.out.trans (hb5 _ (by omega))
       have R65 := Lib.hid hr5
       have R75 : Hid (Row w5 (w.heap.size + 1 + 1 + 1) 35 [.string ⟨#[]⟩, .string ⟨#[]⟩]) := (hf5 _ (by omega)).trans R7.out
       clear HB3 R6 R7 hb5 hr5 hf5)
    | (refine put_flt (.tmp 7) (.tmp 69) (w.heap.size + 1 + 1 + 1) _ _ _ rfl rfl rfl rfl R75.out rfl rfl rfl ?_; intro w6 hr6 hb6 hf6
       have HB6 : Hid (Below w.heap.size w w6) := HB5.out.trans (hb6 _ (by omega))
       have R76 := Lib.hid hr6
       have R66 := Lib.hid ((hf6 (w.heap.size + 1 + 1) (by omega)).trans R65.out)
       clear HB5 R65 R75 hb6 hr6 hf6))
  exact bodyPost_ret (ret_cc rfl _ _ (w.heap.size + 1 + 1) _ (w.heap.size + 1 + 1 + 1) _ rfl rfl R66.out R76.out rfl rfl) rfl ⟨rfl, HB6.out⟩
set_option maxRecDepth 200000 in
set_option maxHeartbeats 4000000 in
theorem rb_cmp3 (op : ByteArray) (t s : ByteArray) (n f ro rf rl rc : Int) (pa ia : Option Addr) (pn pc iN ic : Nat) (s2 : ByteArray) (n2 f2 ro2 rf2 rl2 rc2 : Int) (pa2 ia2 : Option Addr) (pn2 pc2 iN2 ic2 : Nat) (be ab kn is : Bool) (w : World)
    (hO : ∀ w, Calls Tryz.prog 45 #[(Dat.mk 3 t n f s ro rf rl rc pa pn pc ia iN ic).val, (Dat.mk 3 t n2 f2 s2 ro2 rf2 rl2 rc2 pa2 pn2 pc2 ia2 iN2 ic2).val] w fun e w' => e = .returned (.tuple #[.bool be, .bool ab, .bool kn]) ∧ Below w.heap.size w w')
    (hW : ∀ w, Calls Tryz.prog 46 #[.string op, .bool be, .bool ab, .bool kn] w fun e w' => e = .returned (.tuple #[.bool is, .bool true]) ∧ w' = w) :
    Calls Tryz.prog 18 #[.string op, (Dat.mk 3 t n f s ro rf rl rc pa pn pc ia iN ic).val, (Dat.mk 3 t n2 f2 s2 ro2 rf2 rl2 rc2 pa2 pn2 pc2 ia2 iN2 ic2).val] w fun e w' => e = .returned (.tuple #[(yes is).val, .agg #[.string ⟨#[]⟩, .string ⟨#[]⟩]]) ∧ Below w.heap.size w w' := by
  have HO := Lib.hid hO
  have HW := Lib.hid hW
  clear hO hW
  have HB47 := Lib.hid fun w => refbool_any is w
  unfold Dat.val at *
  go_enter Tryz.func18, Tryz.ntmps18
  go_wp2_with (first
    | (go_at_call 45; refine (HO.out _).mono ?_; rintro en w2 ⟨rfl, hb⟩
       have RA : Hid (Row w2 w.heap.size 28 [.int .i64 3, .string t, .int .i64 n, .int .u64 f, .string s, .int .i64 ro, .int .i64 rf, .int .i64 rl, .int .i64 rc, .slice pa pn pc, .slice ia iN ic]) := ((((Row.made w 28 [.int .i64 3, .string t, .int .i64 n, .int .u64 f, .string s, .int .i64 ro, .int .i64 rf, .int .i64 rl, .int .i64 rc, .slice pa pn pc, .slice ia iN ic]).alloc _).alloc _).alloc _).below hb (by simp <;> omega)
       have RB : Hid (Row w2 (w.heap.size + 1) 28 [.int .i64 3, .string t, .int .i64 n2, .int .u64 f2, .string s2, .int .i64 ro2, .int .i64 rf2, .int .i64 rl2, .int .i64 rc2, .slice pa2 pn2 pc2, .slice ia2 iN2 ic2]) := (((row_atOne w _ 28 [.int .i64 3, .string t, .int .i64 n2, .int .u64 f2, .string s2, .int .i64 ro2, .int .i64 rf2, .int .i64 rl2, .int .i64 rc2, .slice pa2 pn2 pc2, .slice ia2 iN2 ic2]).alloc _).alloc _).below hb (by simp <;> omega)
       have R6 : Hid (Row w2 (w.heap.size + 1 + 1) 28 zeroC) := ((row_at2 w _ _ 28 zeroC).alloc _).below hb (by simp <;> omega)
       have R7 : Hid (Row w2 (w.heap.size + 1 + 1 + 1) 35 [.string ⟨#[]⟩, .string ⟨#[]⟩]) := (row_at3 w _ _ _ 35 [.string ⟨#[]⟩, .string ⟨#[]⟩]).below hb (by simp <;> omega)
       have HB2 : Hid (Below w.heap.size w w2) := below_more (below4 w _ _ _ _) hb (by simp <;> omega)
       obtain ⟨p0, p1, p2, p3, p4, p5, p6, p7, p8, p9, p10, pf⟩ := row11 RA.out
       obtain ⟨q0, q1, q2, q3, q4, q5, q6, q7, q8, q9, q10, qf⟩ := row11 RB.out
       clear hb HO)
    | (go_at_call 46; refine (HW.out _).mono ?_; rintro en wx ⟨rfl, hx⟩; have hy := hx.symm; clear hx; subst hy; clear HW)
    | (go_at_call 47; refine (HB47.out _).mono ?_; rintro en w3 ⟨rfl, hb⟩
       replace R6 : Hid (Row w3 (w.heap.size + 1 + 1) 28 zeroC) := R6.out.below hb R6.out.lt
       replace R7 : Hid (Row w3 (w.heap.size + 1 + 1 + 1) 35 [.string ⟨#[]⟩, .string ⟨#[]⟩]) := R7.out.below hb R7.out.lt
       have HB3 : Hid (Below w.heap.size w w3) := below_more HB2.out hb HB2.out.size
       clear hb HB47 HB2 RA RB p0 p1 p2 p3 p4 p5 p6 p7 p8 p9 p10 pf q0 q1 q2 q3 q4 q5 q6 q7 q8 q9 q10 qf)
    | (refine put_dat (.tmp 6) (.tmp 68) (w.heap.size + 1 + 1) zeroC (yes is).cells _ rfl rfl rfl rfl R6.out rfl rfl rfl ?_; intro w5 hr5 hb5 hf5
       have HB5 : Hid (Below w.heap.size w w5) := HB3.out.trans (hb5 _ (by omega))
       have R65 := Lib.hid hr5
       have R75 : Hid (Row w5 (w.heap.size + 1 + 1 + 1) 35 [.string ⟨#[]⟩, .string ⟨#[]⟩]) := (hf5 _ (by omega)).trans R7.out
       clear HB3 R6 R7 hb5 hr5 hf5)
    | (refine put_flt (.tmp 7) (.tmp 69) (w.heap.size + 1 + 1 + 1) _ _ _ rfl rfl rfl rfl R75.out rfl rfl rfl ?_; intro w6 hr6 hb6 hf6
       have HB6 : Hid (Below w.heap.size w w6) := HB5.out.trans (hb6 _ (by omega))
       have R76 := Lib.hid hr6
       have R66 := Lib.hid ((hf6 (w.heap.size + 1 + 1) (by omega)).trans R65.out)
       clear HB5 R65 R75 hb6 hr6 hf6))
  exact bodyPost_ret (ret_cc rfl _ _ (w.heap.size + 1 + 1) _ (w.heap.size + 1 + 1 + 1) _ rfl rfl R66.out R76.out rfl rfl) rfl ⟨rfl, HB6.out⟩
set_option maxRecDepth 200000 in
set_option maxHeartbeats 4000000 in
theorem rb_cmp4 (op : ByteArray) (t s : ByteArray) (n f ro rf rl rc : Int) (pa ia : Option Addr) (pn pc iN ic : Nat) (s2 : ByteArray) (n2 f2 ro2 rf2 rl2 rc2 : Int) (pa2 ia2 : Option Addr) (pn2 pc2 iN2 ic2 : Nat) (be ab kn is : Bool) (w : World)
    (hO : ∀ w, Calls Tryz.prog 45 #[(Dat.mk 4 t n f s ro rf rl rc pa pn pc ia iN ic).val, (Dat.mk 4 t n2 f2 s2 ro2 rf2 rl2 rc2 pa2 pn2 pc2 ia2 iN2 ic2).val] w fun e w' => e = .returned (.tuple #[.bool be, .bool ab, .bool kn]) ∧ Below w.heap.size w w')
    (hW : ∀ w, Calls Tryz.prog 46 #[.string op, .bool be, .bool ab, .bool kn] w fun e w' => e = .returned (.tuple #[.bool is, .bool true]) ∧ w' = w) :
    Calls Tryz.prog 18 #[.string op, (Dat.mk 4 t n f s ro rf rl rc pa pn pc ia iN ic).val, (Dat.mk 4 t n2 f2 s2 ro2 rf2 rl2 rc2 pa2 pn2 pc2 ia2 iN2 ic2).val] w fun e w' => e = .returned (.tuple #[(yes is).val, .agg #[.string ⟨#[]⟩, .string ⟨#[]⟩]]) ∧ Below w.heap.size w w' := by
  have HO := Lib.hid hO
  have HW := Lib.hid hW
  clear hO hW
  have HB47 := Lib.hid fun w => refbool_any is w
  unfold Dat.val at *
  go_enter Tryz.func18, Tryz.ntmps18
  go_wp2_with (first
    | (go_at_call 45; refine (HO.out _).mono ?_; rintro en w2 ⟨rfl, hb⟩
       have RA : Hid (Row w2 w.heap.size 28 [.int .i64 4, .string t, .int .i64 n, .int .u64 f, .string s, .int .i64 ro, .int .i64 rf, .int .i64 rl, .int .i64 rc, .slice pa pn pc, .slice ia iN ic]) := ((((Row.made w 28 [.int .i64 4, .string t, .int .i64 n, .int .u64 f, .string s, .int .i64 ro, .int .i64 rf, .int .i64 rl, .int .i64 rc, .slice pa pn pc, .slice ia iN ic]).alloc _).alloc _).alloc _).below hb (by simp <;> omega)
       have RB : Hid (Row w2 (w.heap.size + 1) 28 [.int .i64 4, .string t, .int .i64 n2, .int .u64 f2, .string s2, .int .i64 ro2, .int .i64 rf2, .int .i64 rl2, .int .i64 rc2, .slice pa2 pn2 pc2, .slice ia2 iN2 ic2]) := (((row_atOne w _ 28 [.int .i64 4, .string t, .int .i64 n2, .int .u64 f2, .string s2, .int .i64 ro2, .int .i64 rf2, .int .i64 rl2, .int .i64 rc2, .slice pa2 pn2 pc2, .slice ia2 iN2 ic2]).alloc _).alloc _).below hb (by simp <;> omega)
       have R6 : Hid (Row w2 (w.heap.size + 1 + 1) 28 zeroC) := ((row_at2 w _ _ 28 zeroC).alloc _).below hb (by simp <;> omega)
       have R7 : Hid (Row w2 (w.heap.size + 1 + 1 + 1) 35 [.string ⟨#[]⟩, .string ⟨#[]⟩]) := (row_at3 w _ _ _ 35 [.string ⟨#[]⟩, .string ⟨#[]⟩]).below hb (by simp <;> omega)
       have HB2 : Hid (Below w.heap.size w w2) := below_more (below4 w _ _ _ _) hb (by simp <;> omega)
       obtain ⟨p0, p1, p2, p3, p4, p5, p6, p7, p8, p9, p10, pf⟩ := row11 RA.out
       obtain ⟨q0, q1, q2, q3, q4, q5, q6, q7, q8, q9, q10, qf⟩ := row11 RB.out
       clear hb HO)
    | (go_at_call 46; refine (HW.out _).mono ?_; rintro en wx ⟨rfl, hx⟩; have hy := hx.symm; clear hx; subst hy; clear HW)
    | (go_at_call 47; refine (HB47.out _).mono ?_; rintro en w3 ⟨rfl, hb⟩
       replace R6 : Hid (Row w3 (w.heap.size + 1 + 1) 28 zeroC) := R6.out.below hb R6.out.lt
       replace R7 : Hid (Row w3 (w.heap.size + 1 + 1 + 1) 35 [.string ⟨#[]⟩, .string ⟨#[]⟩]) := R7.out.below hb R7.out.lt
       have HB3 : Hid (Below w.heap.size w w3) := below_more HB2.out hb HB2.out.size
       clear hb HB47 HB2 RA RB p0 p1 p2 p3 p4 p5 p6 p7 p8 p9 p10 pf q0 q1 q2 q3 q4 q5 q6 q7 q8 q9 q10 qf)
    | (refine put_dat (.tmp 6) (.tmp 68) (w.heap.size + 1 + 1) zeroC (yes is).cells _ rfl rfl rfl rfl R6.out rfl rfl rfl ?_; intro w5 hr5 hb5 hf5
       have HB5 : Hid (Below w.heap.size w w5) := HB3.out.trans (hb5 _ (by omega))
       have R65 := Lib.hid hr5
       have R75 : Hid (Row w5 (w.heap.size + 1 + 1 + 1) 35 [.string ⟨#[]⟩, .string ⟨#[]⟩]) := (hf5 _ (by omega)).trans R7.out
       clear HB3 R6 R7 hb5 hr5 hf5)
    | (refine put_flt (.tmp 7) (.tmp 69) (w.heap.size + 1 + 1 + 1) _ _ _ rfl rfl rfl rfl R75.out rfl rfl rfl ?_; intro w6 hr6 hb6 hf6
       have HB6 : Hid (Below w.heap.size w w6) := HB5.out.trans (hb6 _ (by omega))
       have R76 := Lib.hid hr6
       have R66 := Lib.hid ((hf6 (w.heap.size + 1 + 1) (by omega)).trans R65.out)
       clear HB5 R65 R75 hb6 hr6 hf6))
  exact bodyPost_ret (ret_cc rfl _ _ (w.heap.size + 1 + 1) _ (w.heap.size + 1 + 1 + 1) _ rfl rfl R66.out R76.out rfl rfl) rfl ⟨rfl, HB6.out⟩
end Go.Proofs.YtehakhplglhkdaaGreatDoor
