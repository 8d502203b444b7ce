/- guiseref6.Binary of two floats, no comparison. Conditions: as said. -/
import Derived.Test.YtehakhplglhkdaaGreatDoorRefBinB
import Derived.Test.YtehakhplglhkdaaGreatDoorBin3G
import Derived.Test.YtehakhplglhkdaaGreatDoorUnaryF
namespace Go.Proofs.YtehakhplglhkdaaGreatDoor
set_option linter.unusedVariables false
open Go.RowKit

set_option maxRecDepth 200000 in
set_option maxHeartbeats 2000000 in
theorem frombits_any (x : Int) (w : World) : Calls Tryz.prog 50 #[.int .u64 x] w fun e w' => e = .returned (.float .f64 x.toNat) ∧ w' = w := by
  go_enter Tryz.func50, Tryz.ntmps50
  go_wp2
  go_returns
  exact ⟨rfl, rfl⟩
set_option maxRecDepth 200000 in
set_option maxHeartbeats 2000000 in
theorem tobits_any (b : Nat) (w : World) : Calls Tryz.prog 51 #[.float .f64 b] w fun e w' => e = .returned (.int .u64 (b : Int)) ∧ w' = w := by
  go_enter Tryz.func51, Tryz.ntmps51
  go_wp2
  go_returns
  exact ⟨rfl, rfl⟩
set_option maxRecDepth 200000 in
set_option maxHeartbeats 4000000 in
theorem rb_flt_no (op x y : ByteArray) (t s : ByteArray) (n f ro rf rl rc : Int) (pa ia : Option Addr) (pn pc iN ic : Nat) (s2 : ByteArray) (n2 f2 ro2 rf2 rl2 rc2 : Int) (pa2 ia2 : Option Addr) (pn2 pc2 iN2 ic2 : Nat) (be ab kn is : Bool) (w : World) (h0 : (op.toList == [43]) = false) (h1 : (op.toList == [45]) = false) (h2 : (op.toList == [42]) = false) (h3 : (op.toList == [47]) = false)
    (hO : ∀ w, Calls Tryz.prog 45 #[(Dat.mk 3 t n f s ro rf rl rc pa pn pc ia iN ic).val, (Dat.mk 3 t n2 f2 s2 ro2 rf2 rl2 rc2 pa2 pn2 pc2 ia2 iN2 ic2).val] w fun e w' => e = .returned (.tuple #[.bool be, .bool ab, .bool kn]) ∧ Below w.heap.size w w')
    (hW : ∀ w, Calls Tryz.prog 46 #[.string op, .bool be, .bool ab, .bool kn] w fun e w' => e = .returned (.tuple #[.bool is, .bool false]) ∧ w' = w)
    (h44 : ∀ w, Calls Tryz.prog 44 #[.string op, (Dat.mk 3 t n f s ro rf rl rc pa pn pc ia iN ic).val, (Dat.mk 3 t n2 f2 s2 ro2 rf2 rl2 rc2 pa2 pn2 pc2 ia2 iN2 ic2).val] w fun e w' => e = .returned (.agg #[.string x, .string y]) ∧ Below w.heap.size w w') :
    Calls Tryz.prog 18 #[.string op, (Dat.mk 3 t n f s ro rf rl rc pa pn pc ia iN ic).val, (Dat.mk 3 t n2 f2 s2 ro2 rf2 rl2 rc2 pa2 pn2 pc2 ia2 iN2 ic2).val] w fun e w' => e = .returned (.tuple #[zeroD.val, .agg #[.string x, .string y]]) ∧ Below w.heap.size w w' := by
  have HO := Lib.hid hO
  have HW := Lib.hid hW
  clear hO hW
  have H44 := Lib.hid h44
  clear h44
  unfold Dat.val at *
  go_enter Tryz.func18, Tryz.ntmps18
  go_wp2_with (first
    | (go_at_call 45; refine (HO.out _).mono ?_; rintro en w2 ⟨rfl, hb⟩
       have RA : Hid (Row w2 w.heap.size 28 [.int .i64 3, .string t, .int .i64 n, .int .u64 f, .string s, .int .i64 ro, .int .i64 rf, .int .i64 rl, .int .i64 rc, .slice pa pn pc, .slice ia iN ic]) := ((((Row.made w 28 [.int .i64 3, .string t, .int .i64 n, .int .u64 f, .string s, .int .i64 ro, .int .i64 rf, .int .i64 rl, .int .i64 rc, .slice pa pn pc, .slice ia iN ic]).alloc _).alloc _).alloc _).below hb (by simp <;> omega)
       have RB : Hid (Row w2 (w.heap.size + 1) 28 [.int .i64 3, .string t, .int .i64 n2, .int .u64 f2, .string s2, .int .i64 ro2, .int .i64 rf2, .int .i64 rl2, .int .i64 rc2, .slice pa2 pn2 pc2, .slice ia2 iN2 ic2]) := (((row_atOne w _ 28 [.int .i64 3, .string t, .int .i64 n2, .int .u64 f2, .string s2, .int .i64 ro2, .int .i64 rf2, .int .i64 rl2, .int .i64 rc2, .slice pa2 pn2 pc2, .slice ia2 iN2 ic2]).alloc _).alloc _).below hb (by simp <;> omega)
       have R6 : Hid (Row w2 (w.heap.size + 1 + 1) 28 zeroC) := ((row_at2 w _ _ 28 zeroC).alloc _).below hb (by simp <;> omega)
       have R7 : Hid (Row w2 (w.heap.size + 1 + 1 + 1) 35 [.string ⟨#[]⟩, .string ⟨#[]⟩]) := (row_at3 w _ _ _ 35 [.string ⟨#[]⟩, .string ⟨#[]⟩]).below hb (by simp <;> omega)
       have HB2 : Hid (Below w.heap.size w w2) := below_more (below4 w _ _ _ _) hb (by simp <;> omega)
       obtain ⟨p0, p1, p2, p3, p4, p5, p6, p7, p8, p9, p10, pf⟩ := row11 RA.out; have pl := RA.out.lt
       obtain ⟨q0, q1, q2, q3, q4, q5, q6, q7, q8, q9, q10, qf⟩ := row11 RB.out; have ql := RB.out.lt
       clear hb HO)
    | (go_at_call 46; refine (HW.out _).mono ?_; rintro en wx ⟨rfl, hx⟩; have hy := hx.symm; clear hx; subst hy; clear HW)
    | (go_at_call 50; refine (frombits_any _ _).mono ?_; rintro en wy ⟨rfl, hx⟩; have hy := hx.symm; clear hx; subst hy)
    | (go_at_call 44; refine (H44.out _).mono ?_; rintro en w4 ⟨rfl, hb⟩
       have R64 : Hid (Row w4 (w.heap.size + 1 + 1) 28 zeroC) := (R6.out.alloc _).below hb (R6.out.alloc _).lt
       have R74 : Hid (Row w4 (w.heap.size + 1 + 1 + 1) 35 [.string ⟨#[]⟩, .string ⟨#[]⟩]) := (R7.out.alloc _).below hb (R7.out.alloc _).lt
       have HB4 : Hid (Below w.heap.size w w4) := below_more (HB2.out.alloc HB2.out.size _) hb (by have := HB2.out.size; simp <;> omega)
       clear hb H44 HB2 R6 R7)
    | (have ord := HB4.out.size; refine put_dat (.tmp 6) (.tmp 147) (w.heap.size + 1 + 1) zeroC zeroD.cells _ rfl rfl rfl rfl R64.out rfl rfl rfl ?_; intro w5 hr5 hb5 hf5
       have HB5 : Hid (Below w.heap.size w w5) := HB4.out.trans (hb5 _ (by omega))
       have R65 := Lib.hid hr5
       have R75 : Hid (Row w5 (w.heap.size + 1 + 1 + 1) 35 [.string ⟨#[]⟩, .string ⟨#[]⟩]) := (hf5 _ (by omega)).trans R74.out
       clear ord HB4 R64 R74 hb5 hr5 hf5)
    | (have ord := HB5.out.size; refine put_flt (.tmp 7) (.tmp 151) (w.heap.size + 1 + 1 + 1) _ _ _ rfl rfl rfl rfl R75.out rfl rfl rfl ?_; intro w6 hr6 hb6 hf6
       have HB6 : Hid (Below w.heap.size w w6) := HB5.out.trans (hb6 _ (by omega))
       have R76 := Lib.hid hr6
       have R66 := Lib.hid ((hf6 (w.heap.size + 1 + 1) (by omega)).trans R65.out)
       clear ord HB5 R65 R75 hb6 hr6 hf6))
  exact bodyPost_ret (ret_cc rfl _ _ (w.heap.size + 1 + 1) _ (w.heap.size + 1 + 1 + 1) _ rfl rfl R66.out R76.out rfl rfl) rfl ⟨rfl, HB6.out⟩
set_option maxRecDepth 200000 in
set_option maxHeartbeats 4000000 in
theorem rb_flt_add1 (t s : ByteArray) (n f ro rf rl rc : Int) (pa ia : Option Addr) (pn pc iN ic : Nat) (s2 : ByteArray) (n2 f2 ro2 rf2 rl2 rc2 : Int) (pa2 ia2 : Option Addr) (pn2 pc2 iN2 ic2 : Nat) (be ab kn is : Bool) (r : Nat) (R : Int) (w : World)
    (hO : ∀ w, Calls Tryz.prog 45 #[(Dat.mk 3 t n f s ro rf rl rc pa pn pc ia iN ic).val, (Dat.mk 3 t n2 f2 s2 ro2 rf2 rl2 rc2 pa2 pn2 pc2 ia2 iN2 ic2).val] w fun e w' => e = .returned (.tuple #[.bool be, .bool ab, .bool kn]) ∧ Below w.heap.size w w')
    (hW : ∀ w, Calls Tryz.prog 46 #[.string ⟨#[43]⟩, .bool be, .bool ab, .bool kn] w fun e w' => e = .returned (.tuple #[.bool is, .bool false]) ∧ w' = w)
    (hr : ∀ w, (binOp .add 71 (.float .f64 f.toNat) (.float .f64 f2.toNat)).run Tryz.prog w = .ok (.float .f64 r) w)
    (h40 : ∀ w, Calls Tryz.prog 40 #[.int .u64 (r : Int)] w fun e w' => e = .returned (.int .u64 R) ∧ w' = w) :
    Calls Tryz.prog 18 #[.string ⟨#[43]⟩, (Dat.mk 3 t n f s ro rf rl rc pa pn pc ia iN ic).val, (Dat.mk 3 t n2 f2 s2 ro2 rf2 rl2 rc2 pa2 pn2 pc2 ia2 iN2 ic2).val] w fun e w' => e = .returned (.tuple #[(mk 3 t 0 R ⟨#[]⟩).val, .agg #[.string ⟨#[]⟩, .string ⟨#[]⟩]]) ∧ Below w.heap.size w w' := by
  have HO := Lib.hid hO
  have HW := Lib.hid hW
  clear hO hW
  have H40 := Lib.hid h40
  clear h40
  unfold Dat.val at *
  unfold mk
  go_enter Tryz.func18, Tryz.ntmps18
  go_wp2_with (first
    | (go_at_call 45; refine (HO.out _).mono ?_; rintro en w2 ⟨rfl, hb⟩
       have RA : Hid (Row w2 w.heap.size 28 [.int .i64 3, .string t, .int .i64 n, .int .u64 f, .string s, .int .i64 ro, .int .i64 rf, .int .i64 rl, .int .i64 rc, .slice pa pn pc, .slice ia iN ic]) := ((((Row.made w 28 [.int .i64 3, .string t, .int .i64 n, .int .u64 f, .string s, .int .i64 ro, .int .i64 rf, .int .i64 rl, .int .i64 rc, .slice pa pn pc, .slice ia iN ic]).alloc _).alloc _).alloc _).below hb (by simp <;> omega)
       have RB : Hid (Row w2 (w.heap.size + 1) 28 [.int .i64 3, .string t, .int .i64 n2, .int .u64 f2, .string s2, .int .i64 ro2, .int .i64 rf2, .int .i64 rl2, .int .i64 rc2, .slice pa2 pn2 pc2, .slice ia2 iN2 ic2]) := (((row_atOne w _ 28 [.int .i64 3, .string t, .int .i64 n2, .int .u64 f2, .string s2, .int .i64 ro2, .int .i64 rf2, .int .i64 rl2, .int .i64 rc2, .slice pa2 pn2 pc2, .slice ia2 iN2 ic2]).alloc _).alloc _).below hb (by simp <;> omega)
       have R6 : Hid (Row w2 (w.heap.size + 1 + 1) 28 zeroC) := ((row_at2 w _ _ 28 zeroC).alloc _).below hb (by simp <;> omega)
       have R7 : Hid (Row w2 (w.heap.size + 1 + 1 + 1) 35 [.string ⟨#[]⟩, .string ⟨#[]⟩]) := (row_at3 w _ _ _ 35 [.string ⟨#[]⟩, .string ⟨#[]⟩]).below hb (by simp <;> omega)
       have HB2 : Hid (Below w.heap.size w w2) := below_more (below4 w _ _ _ _) hb (by simp <;> omega)
       obtain ⟨p0, p1, p2, p3, p4, p5, p6, p7, p8, p9, p10, pf⟩ := row11 RA.out; have pl := RA.out.lt
       obtain ⟨q0, q1, q2, q3, q4, q5, q6, q7, q8, q9, q10, qf⟩ := row11 RB.out; have ql := RB.out.lt
       clear hb HO)
    | (go_at_call 46; refine (HW.out _).mono ?_; rintro en wx ⟨rfl, hx⟩; have hy := hx.symm; clear hx; subst hy; clear HW)
    | (go_at_call 50; refine (frombits_any _ _).mono ?_; rintro en wy ⟨rfl, hx⟩; have hy := hx.symm; clear hx; subst hy)
    | (go_at_call 51; refine (tobits_any _ _).mono ?_; rintro en wy ⟨rfl, hx⟩; have hy := hx.symm; clear hx; subst hy)
    | (go_at_call 40; refine (H40.out _).mono ?_; rintro en wy ⟨rfl, hx⟩; have hy := hx.symm; clear hx; subst hy; clear H40)
    | (refine put_dat (.tmp 6) (.tmp 176) (w.heap.size + 1 + 1) zeroC (mk 3 t 0 R ⟨#[]⟩).cells _ rfl rfl rfl rfl ?hr rfl rfl rfl ?_
       case hr => exact (R6.out.alloc _)
       intro w5 hr5 hb5 hf5
       have HB5 : Hid (Below w.heap.size w w5) := (HB2.out.alloc HB2.out.size _).trans (hb5 _ (by omega))
       have R65 := Lib.hid hr5
       have R75 : Hid (Row w5 (w.heap.size + 1 + 1 + 1) 35 [.string ⟨#[]⟩, .string ⟨#[]⟩]) := (hf5 _ (by omega)).trans (R7.out.alloc _)
       clear HB2 R6 R7 hb5 hr5 hf5)
    | (have ord := HB5.out.size; refine put_flt (.tmp 7) (.tmp 177) (w.heap.size + 1 + 1 + 1) _ _ _ rfl rfl rfl rfl R75.out rfl rfl rfl ?_; intro w6 hr6 hb6 hf6
       have HB6 : Hid (Below w.heap.size w w6) := HB5.out.trans (hb6 _ (by omega))
       have R76 := Lib.hid hr6
       have R66 := Lib.hid ((hf6 (w.heap.size + 1 + 1) (by omega)).trans R65.out)
       clear ord HB5 R65 R75 hb6 hr6 hf6))
  exact bodyPost_ret (ret_cc rfl _ _ (w.heap.size + 1 + 1) _ (w.heap.size + 1 + 1 + 1) _ rfl rfl R66.out R76.out rfl rfl) rfl ⟨rfl, HB6.out⟩
set_option maxRecDepth 200000 in
set_option maxHeartbeats 4000000 in
theorem rb_flt_add2 (t s : ByteArray) (n f ro rf rl rc : Int) (pa ia : Option Addr) (pn pc iN ic : Nat) (s2 : ByteArray) (n2 f2 ro2 rf2 rl2 rc2 : Int) (pa2 ia2 : Option Addr) (pn2 pc2 iN2 ic2 : Nat) (be ab kn is : Bool) (rr : World → Nat) (R : Int) (w : World)
    (hO : ∀ w, Calls Tryz.prog 45 #[(Dat.mk 3 t n f s ro rf rl rc pa pn pc ia iN ic).val, (Dat.mk 3 t n2 f2 s2 ro2 rf2 rl2 rc2 pa2 pn2 pc2 ia2 iN2 ic2).val] w fun e w' => e = .returned (.tuple #[.bool be, .bool ab, .bool kn]) ∧ Below w.heap.size w w')
    (hW : ∀ w, Calls Tryz.prog 46 #[.string ⟨#[43]⟩, .bool be, .bool ab, .bool kn] w fun e w' => e = .returned (.tuple #[.bool is, .bool false]) ∧ w' = w)
    (hr : ∀ w, (binOp .add 71 (.float .f64 f.toNat) (.float .f64 f2.toNat)).run Tryz.prog w = .ok (.float .f64 (rr w)) w.drew)
    (h40 : ∀ w' w, Calls Tryz.prog 40 #[.int .u64 (rr w' : Int)] w fun e w' => e = .returned (.int .u64 R) ∧ w' = w) :
    Calls Tryz.prog 18 #[.string ⟨#[43]⟩, (Dat.mk 3 t n f s ro rf rl rc pa pn pc ia iN ic).val, (Dat.mk 3 t n2 f2 s2 ro2 rf2 rl2 rc2 pa2 pn2 pc2 ia2 iN2 ic2).val] w fun e w' => e = .returned (.tuple #[(mk 3 t 0 R ⟨#[]⟩).val, .agg #[.string ⟨#[]⟩, .string ⟨#[]⟩]]) ∧ Below w.heap.size w w' := by
  have HO := Lib.hid hO
  have HW := Lib.hid hW
  clear hO hW
  have H40 := Lib.hid h40
  clear h40
  unfold Dat.val at *
  unfold mk
  go_enter Tryz.func18, Tryz.ntmps18
  go_wp2_with (first
    | (go_at_call 45; refine (HO.out _).mono ?_; rintro en w2 ⟨rfl, hb⟩
       have RA : Hid (Row w2 w.heap.size 28 [.int .i64 3, .string t, .int .i64 n, .int .u64 f, .string s, .int .i64 ro, .int .i64 rf, .int .i64 rl, .int .i64 rc, .slice pa pn pc, .slice ia iN ic]) := ((((Row.made w 28 [.int .i64 3, .string t, .int .i64 n, .int .u64 f, .string s, .int .i64 ro, .int .i64 rf, .int .i64 rl, .int .i64 rc, .slice pa pn pc, .slice ia iN ic]).alloc _).alloc _).alloc _).below hb (by simp <;> omega)
       have RB : Hid (Row w2 (w.heap.size + 1) 28 [.int .i64 3, .string t, .int .i64 n2, .int .u64 f2, .string s2, .int .i64 ro2, .int .i64 rf2, .int .i64 rl2, .int .i64 rc2, .slice pa2 pn2 pc2, .slice ia2 iN2 ic2]) := (((row_atOne w _ 28 [.int .i64 3, .string t, .int .i64 n2, .int .u64 f2, .string s2, .int .i64 ro2, .int .i64 rf2, .int .i64 rl2, .int .i64 rc2, .slice pa2 pn2 pc2, .slice ia2 iN2 ic2]).alloc _).alloc _).below hb (by simp <;> omega)
       have R6 : Hid (Row w2 (w.heap.size + 1 + 1) 28 zeroC) := ((row_at2 w _ _ 28 zeroC).alloc _).below hb (by simp <;> omega)
       have R7 : Hid (Row w2 (w.heap.size + 1 + 1 + 1) 35 [.string ⟨#[]⟩, .string ⟨#[]⟩]) := (row_at3 w _ _ _ 35 [.string ⟨#[]⟩, .string ⟨#[]⟩]).below hb (by simp <;> omega)
       have HB2 : Hid (Below w.heap.size w w2) := below_more (below4 w _ _ _ _) hb (by simp <;> omega)
       obtain ⟨p0, p1, p2, p3, p4, p5, p6, p7, p8, p9, p10, pf⟩ := row11 RA.out; have pl := RA.out.lt
       obtain ⟨q0, q1, q2, q3, q4, q5, q6, q7, q8, q9, q10, qf⟩ := row11 RB.out; have ql := RB.out.lt
       clear hb HO)
    | (go_at_call 46; refine (HW.out _).mono ?_; rintro en wx ⟨rfl, hx⟩; have hy := hx.symm; clear hx; subst hy; clear HW)
    | (go_at_call 50; refine (frombits_any _ _).mono ?_; rintro en wy ⟨rfl, hx⟩; have hy := hx.symm; clear hx; subst hy)
    | (go_at_call 51; refine (tobits_any _ _).mono ?_; rintro en wy ⟨rfl, hx⟩; have hy := hx.symm; clear hx; subst hy)
    | (go_at_call 40; refine (H40.out _ _).mono ?_; rintro en wy ⟨rfl, hx⟩; have hy := hx.symm; clear hx; subst hy; clear H40)
    | (refine put_dat (.tmp 6) (.tmp 176) (w.heap.size + 1 + 1) zeroC (mk 3 t 0 R ⟨#[]⟩).cells _ rfl rfl rfl rfl ?hr rfl rfl rfl ?_
       case hr => exact (R6.out.alloc _).drew
       intro w5 hr5 hb5 hf5
       have HB5 : Hid (Below w.heap.size w w5) := (below_drew (HB2.out.alloc HB2.out.size _)).trans (hb5 _ (by omega))
       have R65 := Lib.hid hr5
       have R75 : Hid (Row w5 (w.heap.size + 1 + 1 + 1) 35 [.string ⟨#[]⟩, .string ⟨#[]⟩]) := (hf5 _ (by omega)).trans (R7.out.alloc _).drew
       clear HB2 R6 R7 hb5 hr5 hf5)
    | (have ord := HB5.out.size; refine put_flt (.tmp 7) (.tmp 177) (w.heap.size + 1 + 1 + 1) _ _ _ rfl rfl rfl rfl R75.out rfl rfl rfl ?_; intro w6 hr6 hb6 hf6
       have HB6 : Hid (Below w.heap.size w w6) := HB5.out.trans (hb6 _ (by omega))
       have R76 := Lib.hid hr6
       have R66 := Lib.hid ((hf6 (w.heap.size + 1 + 1) (by omega)).trans R65.out)
       clear ord HB5 R65 R75 hb6 hr6 hf6))
  exact bodyPost_ret (ret_cc rfl _ _ (w.heap.size + 1 + 1) _ (w.heap.size + 1 + 1 + 1) _ rfl rfl R66.out R76.out rfl rfl) rfl ⟨rfl, HB6.out⟩
set_option maxRecDepth 200000 in
set_option maxHeartbeats 4000000 in
theorem rb_flt_sub1 (t s : ByteArray) (n f ro rf rl rc : Int) (pa ia : Option Addr) (pn pc iN ic : Nat) (s2 : ByteArray) (n2 f2 ro2 rf2 rl2 rc2 : Int) (pa2 ia2 : Option Addr) (pn2 pc2 iN2 ic2 : Nat) (be ab kn is : Bool) (r : Nat) (R : Int) (w : World)
    (hO : ∀ w, Calls Tryz.prog 45 #[(Dat.mk 3 t n f s ro rf rl rc pa pn pc ia iN ic).val, (Dat.mk 3 t n2 f2 s2 ro2 rf2 rl2 rc2 pa2 pn2 pc2 ia2 iN2 ic2).val] w fun e w' => e = .returned (.tuple #[.bool be, .bool ab, .bool kn]) ∧ Below w.heap.size w w')
    (hW : ∀ w, Calls Tryz.prog 46 #[.string ⟨#[45]⟩, .bool be, .bool ab, .bool kn] w fun e w' => e = .returned (.tuple #[.bool is, .bool false]) ∧ w' = w)
    (hr : ∀ w, (binOp .sub 71 (.float .f64 f.toNat) (.float .f64 f2.toNat)).run Tryz.prog w = .ok (.float .f64 r) w)
    (h40 : ∀ w, Calls Tryz.prog 40 #[.int .u64 (r : Int)] w fun e w' => e = .returned (.int .u64 R) ∧ w' = w) :
    Calls Tryz.prog 18 #[.string ⟨#[45]⟩, (Dat.mk 3 t n f s ro rf rl rc pa pn pc ia iN ic).val, (Dat.mk 3 t n2 f2 s2 ro2 rf2 rl2 rc2 pa2 pn2 pc2 ia2 iN2 ic2).val] w fun e w' => e = .returned (.tuple #[(mk 3 t 0 R ⟨#[]⟩).val, .agg #[.string ⟨#[]⟩, .string ⟨#[]⟩]]) ∧ Below w.heap.size w w' := by
  have HO := Lib.hid hO
  have HW := Lib.hid hW
  clear hO hW
  have H40 := Lib.hid h40
  clear h40
  unfold Dat.val at *
  unfold mk
  go_enter Tryz.func18, Tryz.ntmps18
  go_wp2_with (first
    | (go_at_call 45; refine (HO.out _).mono ?_; rintro en w2 ⟨rfl, hb⟩
       have RA : Hid (Row w2 w.heap.size 28 [.int .i64 3, .string t, .int .i64 n, .int .u64 f, .string s, .int .i64 ro, .int .i64 rf, .int .i64 rl, .int .i64 rc, .slice pa pn pc, .slice ia iN ic]) := ((((Row.made w 28 [.int .i64 3, .string t, .int .i64 n, .int .u64 f, .string s, .int .i64 ro, .int .i64 rf, .int .i64 rl, .int .i64 rc, .slice pa pn pc, .slice ia iN ic]).alloc _).alloc _).alloc _).below hb (by simp <;> omega)
       have RB : Hid (Row w2 (w.heap.size + 1) 28 [.int .i64 3, .string t, .int .i64 n2, .int .u64 f2, .string s2, .int .i64 ro2, .int .i64 rf2, .int .i64 rl2, .int .i64 rc2, .slice pa2 pn2 pc2, .slice ia2 iN2 ic2]) := (((row_atOne w _ 28 [.int .i64 3, .string t, .int .i64 n2, .int .u64 f2, .string s2, .int .i64 ro2, .int .i64 rf2, .int .i64 rl2, .int .i64 rc2, .slice pa2 pn2 pc2, .slice ia2 iN2 ic2]).alloc _).alloc _).below hb (by simp <;> omega)
       have R6 : Hid (Row w2 (w.heap.size + 1 + 1) 28 zeroC) := ((row_at2 w _ _ 28 zeroC).alloc _).below hb (by simp <;> omega)
       have R7 : Hid (Row w2 (w.heap.size + 1 + 1 + 1) 35 [.string ⟨#[]⟩, .string ⟨#[]⟩]) := (row_at3 w _ _ _ 35 [.string ⟨#[]⟩, .string ⟨#[]⟩]).below hb (by simp <;> omega)
       have HB2 : Hid (Below w.heap.size w w2) := below_more (below4 w _ _ _ _) hb (by simp <;> omega)
       obtain ⟨p0, p1, p2, p3, p4, p5, p6, p7, p8, p9, p10, pf⟩ := row11 RA.out; have pl := RA.out.lt
       obtain ⟨q0, q1, q2, q3, q4, q5, q6, q7, q8, q9, q10, qf⟩ := row11 RB.out; have ql := RB.out.lt
       clear hb HO)
    | (go_at_call 46; refine (HW.out _).mono ?_; rintro en wx ⟨rfl, hx⟩; have hy := hx.symm; clear hx; subst hy; clear HW)
    | (go_at_call 50; refine (frombits_any _ _).mono ?_; rintro en wy ⟨rfl, hx⟩; have hy := hx.symm; clear hx; subst hy)
    | (go_at_call 51; refine (tobits_any _ _).mono ?_; rintro en wy ⟨rfl, hx⟩; have hy := hx.symm; clear hx; subst hy)
    | (go_at_call 40; refine (H40.out _).mono ?_; rintro en wy ⟨rfl, hx⟩; have hy := hx.symm; clear hx; subst hy; clear H40)
    | (refine put_dat (.tmp 6) (.tmp 176) (w.heap.size + 1 + 1) zeroC (mk 3 t 0 R ⟨#[]⟩).cells _ rfl rfl rfl rfl ?hr rfl rfl rfl ?_
       case hr => exact (R6.out.alloc _)
       intro w5 hr5 hb5 hf5
       have HB5 : Hid (Below w.heap.size w w5) := (HB2.out.alloc HB2.out.size _).trans (hb5 _ (by omega))
       have R65 := Lib.hid hr5
       have R75 : Hid (Row w5 (w.heap.size + 1 + 1 + 1) 35 [.string ⟨#[]⟩, .string ⟨#[]⟩]) := (hf5 _ (by omega)).trans (R7.out.alloc _)
       clear HB2 R6 R7 hb5 hr5 hf5)
    | (have ord := HB5.out.size; refine put_flt (.tmp 7) (.tmp 177) (w.heap.size + 1 + 1 + 1) _ _ _ rfl rfl rfl rfl R75.out rfl rfl rfl ?_; intro w6 hr6 hb6 hf6
       have HB6 : Hid (Below w.heap.size w w6) := HB5.out.trans (hb6 _ (by omega))
       have R76 := Lib.hid hr6
       have R66 := Lib.hid ((hf6 (w.heap.size + 1 + 1) (by omega)).trans R65.out)
       clear ord HB5 R65 R75 hb6 hr6 hf6))
  exact bodyPost_ret (ret_cc rfl _ _ (w.heap.size + 1 + 1) _ (w.heap.size + 1 + 1 + 1) _ rfl rfl R66.out R76.out rfl rfl) rfl ⟨rfl, HB6.out⟩
set_option maxRecDepth 200000 in
set_option maxHeartbeats 4000000 in
theorem rb_flt_sub2 (t s : ByteArray) (n f ro rf rl rc : Int) (pa ia : Option Addr) (pn pc iN ic : Nat) (s2 : ByteArray) (n2 f2 ro2 rf2 rl2 rc2 : Int) (pa2 ia2 : Option Addr) (pn2 pc2 iN2 ic2 : Nat) (be ab kn is : Bool) (rr : World → Nat) (R : Int) (w : World)
    (hO : ∀ w, Calls Tryz.prog 45 #[(Dat.mk 3 t n f s ro rf rl rc pa pn pc ia iN ic).val, (Dat.mk 3 t n2 f2 s2 ro2 rf2 rl2 rc2 pa2 pn2 pc2 ia2 iN2 ic2).val] w fun e w' => e = .returned (.tuple #[.bool be, .bool ab, .bool kn]) ∧ Below w.heap.size w w')
    (hW : ∀ w, Calls Tryz.prog 46 #[.string ⟨#[45]⟩, .bool be, .bool ab, .bool kn] w fun e w' => e = .returned (.tuple #[.bool is, .bool false]) ∧ w' = w)
    (hr : ∀ w, (binOp .sub 71 (.float .f64 f.toNat) (.float .f64 f2.toNat)).run Tryz.prog w = .ok (.float .f64 (rr w)) w.drew)
    (h40 : ∀ w' w, Calls Tryz.prog 40 #[.int .u64 (rr w' : Int)] w fun e w' => e = .returned (.int .u64 R) ∧ w' = w) :
    Calls Tryz.prog 18 #[.string ⟨#[45]⟩, (Dat.mk 3 t n f s ro rf rl rc pa pn pc ia iN ic).val, (Dat.mk 3 t n2 f2 s2 ro2 rf2 rl2 rc2 pa2 pn2 pc2 ia2 iN2 ic2).val] w fun e w' => e = .returned (.tuple #[(mk 3 t 0 R ⟨#[]⟩).val, .agg #[.string ⟨#[]⟩, .string ⟨#[]⟩]]) ∧ Below w.heap.size w w' := by
  have HO := Lib.hid hO
  have HW := Lib.hid hW
  clear hO hW
  have H40 := Lib.hid h40
  clear h40
  unfold Dat.val at *
  unfold mk
  go_enter Tryz.func18, Tryz.ntmps18
  go_wp2_with (first
    | (go_at_call 45; refine (HO.out _).mono ?_; rintro en w2 ⟨rfl, hb⟩
       have RA : Hid (Row w2 w.heap.size 28 [.int .i64 3, .string t, .int .i64 n, .int .u64 f, .string s, .int .i64 ro, .int .i64 rf, .int .i64 rl, .int .i64 rc, .slice pa pn pc, .slice ia iN ic]) := ((((Row.made w 28 [.int .i64 3, .string t, .int .i64 n, .int .u64 f, .string s, .int .i64 ro, .int .i64 rf, .int .i64 rl, .int .i64 rc, .slice pa pn pc, .slice ia iN ic]).alloc _).alloc _).alloc _).below hb (by simp <;> omega)
       have RB : Hid (Row w2 (w.heap.size + 1) 28 [.int .i64 3, .string t, .int .i64 n2, .int .u64 f2, .string s2, .int .i64 ro2, .int .i64 rf2, .int .i64 rl2, .int .i64 rc2, .slice pa2 pn2 pc2, .slice ia2 iN2 ic2]) := (((row_atOne w _ 28 [.int .i64 3, .string t, .int .i64 n2, .int .u64 f2, .string s2, .int .i64 ro2, .int .i64 rf2, .int .i64 rl2, .int .i64 rc2, .slice pa2 pn2 pc2, .slice ia2 iN2 ic2]).alloc _).alloc _).below hb (by simp <;> omega)
       have R6 : Hid (Row w2 (w.heap.size + 1 + 1) 28 zeroC) := ((row_at2 w _ _ 28 zeroC).alloc _).below hb (by simp <;> omega)
       have R7 : Hid (Row w2 (w.heap.size + 1 + 1 + 1) 35 [.string ⟨#[]⟩, .string ⟨#[]⟩]) := (row_at3 w _ _ _ 35 [.string ⟨#[]⟩, .string ⟨#[]⟩]).below hb (by simp <;> omega)
       have HB2 : Hid (Below w.heap.size w w2) := below_more (below4 w _ _ _ _) hb (by simp <;> omega)
       obtain ⟨p0, p1, p2, p3, p4, p5, p6, p7, p8, p9, p10, pf⟩ := row11 RA.out; have pl := RA.out.lt
       obtain ⟨q0, q1, q2, q3, q4, q5, q6, q7, q8, q9, q10, qf⟩ := row11 RB.out; have ql := RB.out.lt
       clear hb HO)
    | (go_at_call 46; refine (HW.out _).mono ?_; rintro en wx ⟨rfl, hx⟩; have hy := hx.symm; clear hx; subst hy; clear HW)
    | (go_at_call 50; refine (frombits_any _ _).mono ?_; rintro en wy ⟨rfl, hx⟩; have hy := hx.symm; clear hx; subst hy)
    | (go_at_call 51; refine (tobits_any _ _).mono ?_; rintro en wy ⟨rfl, hx⟩; have hy := hx.symm; clear hx; subst hy)
    | (go_at_call 40; refine (H40.out _ _).mono ?_; rintro en wy ⟨rfl, hx⟩; have hy := hx.symm; clear hx; subst hy; clear H40)
    | (refine put_dat (.tmp 6) (.tmp 176) (w.heap.size + 1 + 1) zeroC (mk 3 t 0 R ⟨#[]⟩).cells _ rfl rfl rfl rfl ?hr rfl rfl rfl ?_
       case hr => exact (R6.out.alloc _).drew
       intro w5 hr5 hb5 hf5
       have HB5 : Hid (Below w.heap.size w w5) := (below_drew (HB2.out.alloc HB2.out.size _)).trans (hb5 _ (by omega))
       have R65 := Lib.hid hr5
       have R75 : Hid (Row w5 (w.heap.size + 1 + 1 + 1) 35 [.string ⟨#[]⟩, .string ⟨#[]⟩]) := (hf5 _ (by omega)).trans (R7.out.alloc _).drew
       clear HB2 R6 R7 hb5 hr5 hf5)
    | (have ord := HB5.out.size; refine put_flt (.tmp 7) (.tmp 177) (w.heap.size + 1 + 1 + 1) _ _ _ rfl rfl rfl rfl R75.out rfl rfl rfl ?_; intro w6 hr6 hb6 hf6
       have HB6 : Hid (Below w.heap.size w w6) := HB5.out.trans (hb6 _ (by omega))
       have R76 := Lib.hid hr6
       have R66 := Lib.hid ((hf6 (w.heap.size + 1 + 1) (by omega)).trans R65.out)
       clear ord HB5 R65 R75 hb6 hr6 hf6))
  exact bodyPost_ret (ret_cc rfl _ _ (w.heap.size + 1 + 1) _ (w.heap.size + 1 + 1 + 1) _ rfl rfl R66.out R76.out rfl rfl) rfl ⟨rfl, HB6.out⟩
set_option maxRecDepth 200000 in
set_option maxHeartbeats 4000000 in
theorem rb_flt_mul1 (t s : ByteArray) (n f ro rf rl rc : Int) (pa ia : Option Addr) (pn pc iN ic : Nat) (s2 : ByteArray) (n2 f2 ro2 rf2 rl2 rc2 : Int) (pa2 ia2 : Option Addr) (pn2 pc2 iN2 ic2 : Nat) (be ab kn is : Bool) (r : Nat) (R : Int) (w : World)
    (hO : ∀ w, Calls Tryz.prog 45 #[(Dat.mk 3 t n f s ro rf rl rc pa pn pc ia iN ic).val, (Dat.mk 3 t n2 f2 s2 ro2 rf2 rl2 rc2 pa2 pn2 pc2 ia2 iN2 ic2).val] w fun e w' => e = .returned (.tuple #[.bool be, .bool ab, .bool kn]) ∧ Below w.heap.size w w')
    (hW : ∀ w, Calls Tryz.prog 46 #[.string ⟨#[42]⟩, .bool be, .bool ab, .bool kn] w fun e w' => e = .returned (.tuple #[.bool is, .bool false]) ∧ w' = w)
    (hr : ∀ w, (binOp .mul 71 (.float .f64 f.toNat) (.float .f64 f2.toNat)).run Tryz.prog w = .ok (.float .f64 r) w)
    (h40 : ∀ w, Calls Tryz.prog 40 #[.int .u64 (r : Int)] w fun e w' => e = .returned (.int .u64 R) ∧ w' = w) :
    Calls Tryz.prog 18 #[.string ⟨#[42]⟩, (Dat.mk 3 t n f s ro rf rl rc pa pn pc ia iN ic).val, (Dat.mk 3 t n2 f2 s2 ro2 rf2 rl2 rc2 pa2 pn2 pc2 ia2 iN2 ic2).val] w fun e w' => e = .returned (.tuple #[(mk 3 t 0 R ⟨#[]⟩).val, .agg #[.string ⟨#[]⟩, .string ⟨#[]⟩]]) ∧ Below w.heap.size w w' := by
  have HO := Lib.hid hO
  have HW := Lib.hid hW
  clear hO hW
  have H40 := Lib.hid h40
  clear h40
  unfold Dat.val at *
  unfold mk
  go_enter Tryz.func18, Tryz.ntmps18
  go_wp2_with (first
    | (go_at_call 45; refine (HO.out _).mono ?_; rintro en w2 ⟨rfl, hb⟩
       have RA : Hid (Row w2 w.heap.size 28 [.int .i64 3, .string t, .int .i64 n, .int .u64 f, .string s, .int .i64 ro, .int .i64 rf, .int .i64 rl, .int .i64 rc, .slice pa pn pc, .slice ia iN ic]) := ((((Row.made w 28 [.int .i64 3, .string t, .int .i64 n, .int .u64 f, .string s, .int .i64 ro, .int .i64 rf, .int .i64 rl, .int .i64 rc, .slice pa pn pc, .slice ia iN ic]).alloc _).alloc _).alloc _).below hb (by simp <;> omega)
       have RB : Hid (Row w2 (w.heap.size + 1) 28 [.int .i64 3, .string t, .int .i64 n2, .int .u64 f2, .string s2, .int .i64 ro2, .int .i64 rf2, .int .i64 rl2, .int .i64 rc2, .slice pa2 pn2 pc2, .slice ia2 iN2 ic2]) := (((row_atOne w _ 28 [.int .i64 3, .string t, .int .i64 n2, .int .u64 f2, .string s2, .int .i64 ro2, .int .i64 rf2, .int .i64 rl2, .int .i64 rc2, .slice pa2 pn2 pc2, .slice ia2 iN2 ic2]).alloc _).alloc _).below hb (by simp <;> omega)
       have R6 : Hid (Row w2 (w.heap.size + 1 + 1) 28 zeroC) := ((row_at2 w _ _ 28 zeroC).alloc _).below hb (by simp <;> omega)
       have R7 : Hid (Row w2 (w.heap.size + 1 + 1 + 1) 35 [.string ⟨#[]⟩, .string ⟨#[]⟩]) := (row_at3 w _ _ _ 35 [.string ⟨#[]⟩, .string ⟨#[]⟩]).below hb (by simp <;> omega)
       have HB2 : Hid (Below w.heap.size w w2) := below_more (below4 w _ _ _ _) hb (by simp <;> omega)
       obtain ⟨p0, p1, p2, p3, p4, p5, p6, p7, p8, p9, p10, pf⟩ := row11 RA.out; have pl := RA.out.lt
       obtain ⟨q0, q1, q2, q3, q4, q5, q6, q7, q8, q9, q10, qf⟩ := row11 RB.out; have ql := RB.out.lt
       clear hb HO)
    | (go_at_call 46; refine (HW.out _).mono ?_; rintro en wx ⟨rfl, hx⟩; have hy := hx.symm; clear hx; subst hy; clear HW)
    | (go_at_call 50; refine (frombits_any _ _).mono ?_; rintro en wy ⟨rfl, hx⟩; have hy := hx.symm; clear hx; subst hy)
    | (go_at_call 51; refine (tobits_any _ _).mono ?_; rintro en wy ⟨rfl, hx⟩; have hy := hx.symm; clear hx; subst hy)
    | (go_at_call 40; refine (H40.out _).mono ?_; rintro en wy ⟨rfl, hx⟩; have hy := hx.symm; clear hx; subst hy; clear H40)
    | (refine put_dat (.tmp 6) (.tmp 176) (w.heap.size + 1 + 1) zeroC (mk 3 t 0 R ⟨#[]⟩).cells _ rfl rfl rfl rfl ?hr rfl rfl rfl ?_
       case hr => exact (R6.out.alloc _)
       intro w5 hr5 hb5 hf5
       have HB5 : Hid (Below w.heap.size w w5) := (HB2.out.alloc HB2.out.size _).trans (hb5 _ (by omega))
       have R65 := Lib.hid hr5
       have R75 : Hid (Row w5 (w.heap.size + 1 + 1 + 1) 35 [.string ⟨#[]⟩, .string ⟨#[]⟩]) := (hf5 _ (by omega)).trans (R7.out.alloc _)
       clear HB2 R6 R7 hb5 hr5 hf5)
    | (have ord := HB5.out.size; refine put_flt (.tmp 7) (.tmp 177) (w.heap.size + 1 + 1 + 1) _ _ _ rfl rfl rfl rfl R75.out rfl rfl rfl ?_; intro w6 hr6 hb6 hf6
       have HB6 : Hid (Below w.heap.size w w6) := HB5.out.trans (hb6 _ (by omega))
       have R76 := Lib.hid hr6
       have R66 := Lib.hid ((hf6 (w.heap.size + 1 + 1) (by omega)).trans R65.out)
       clear ord HB5 R65 R75 hb6 hr6 hf6))
  exact bodyPost_ret (ret_cc rfl _ _ (w.heap.size + 1 + 1) _ (w.heap.size + 1 + 1 + 1) _ rfl rfl R66.out R76.out rfl rfl) rfl ⟨rfl, HB6.out⟩
set_option maxRecDepth 200000 in
set_option maxHeartbeats 4000000 in
theorem rb_flt_mul2 (t s : ByteArray) (n f ro rf rl rc : Int) (pa ia : Option Addr) (pn pc iN ic : Nat) (s2 : ByteArray) (n2 f2 ro2 rf2 rl2 rc2 : Int) (pa2 ia2 : Option Addr) (pn2 pc2 iN2 ic2 : Nat) (be ab kn is : Bool) (rr : World → Nat) (R : Int) (w : World)
    (hO : ∀ w, Calls Tryz.prog 45 #[(Dat.mk 3 t n f s ro rf rl rc pa pn pc ia iN ic).val, (Dat.mk 3 t n2 f2 s2 ro2 rf2 rl2 rc2 pa2 pn2 pc2 ia2 iN2 ic2).val] w fun e w' => e = .returned (.tuple #[.bool be, .bool ab, .bool kn]) ∧ Below w.heap.size w w')
    (hW : ∀ w, Calls Tryz.prog 46 #[.string ⟨#[42]⟩, .bool be, .bool ab, .bool kn] w fun e w' => e = .returned (.tuple #[.bool is, .bool false]) ∧ w' = w)
    (hr : ∀ w, (binOp .mul 71 (.float .f64 f.toNat) (.float .f64 f2.toNat)).run Tryz.prog w = .ok (.float .f64 (rr w)) w.drew)
    (h40 : ∀ w' w, Calls Tryz.prog 40 #[.int .u64 (rr w' : Int)] w fun e w' => e = .returned (.int .u64 R) ∧ w' = w) :
    Calls Tryz.prog 18 #[.string ⟨#[42]⟩, (Dat.mk 3 t n f s ro rf rl rc pa pn pc ia iN ic).val, (Dat.mk 3 t n2 f2 s2 ro2 rf2 rl2 rc2 pa2 pn2 pc2 ia2 iN2 ic2).val] w fun e w' => e = .returned (.tuple #[(mk 3 t 0 R ⟨#[]⟩).val, .agg #[.string ⟨#[]⟩, .string ⟨#[]⟩]]) ∧ Below w.heap.size w w' := by
  have HO := Lib.hid hO
  have HW := Lib.hid hW
  clear hO hW
  have H40 := Lib.hid h40
  clear h40
  unfold Dat.val at *
  unfold mk
  go_enter Tryz.func18, Tryz.ntmps18
  go_wp2_with (first
    | (go_at_call 45; refine (HO.out _).mono ?_; rintro en w2 ⟨rfl, hb⟩
       have RA : Hid (Row w2 w.heap.size 28 [.int .i64 3, .string t, .int .i64 n, .int .u64 f, .string s, .int .i64 ro, .int .i64 rf, .int .i64 rl, .int .i64 rc, .slice pa pn pc, .slice ia iN ic]) := ((((Row.made w 28 [.int .i64 3, .string t, .int .i64 n, .int .u64 f, .string s, .int .i64 ro, .int .i64 rf, .int .i64 rl, .int .i64 rc, .slice pa pn pc, .slice ia iN ic]).alloc _).alloc _).alloc _).below hb (by simp <;> omega)
       have RB : Hid (Row w2 (w.heap.size + 1) 28 [.int .i64 3, .string t, .int .i64 n2, .int .u64 f2, .string s2, .int .i64 ro2, .int .i64 rf2, .int .i64 rl2, .int .i64 rc2, .slice pa2 pn2 pc2, .slice ia2 iN2 ic2]) := (((row_atOne w _ 28 [.int .i64 3, .string t, .int .i64 n2, .int .u64 f2, .string s2, .int .i64 ro2, .int .i64 rf2, .int .i64 rl2, .int .i64 rc2, .slice pa2 pn2 pc2, .slice ia2 iN2 ic2]).alloc _).alloc _).below hb (by simp <;> omega)
       have R6 : Hid (Row w2 (w.heap.size + 1 + 1) 28 zeroC) := ((row_at2 w _ _ 28 zeroC).alloc _).below hb (by simp <;> omega)
       have R7 : Hid (Row w2 (w.heap.size + 1 + 1 + 1) 35 [.string ⟨#[]⟩, .string ⟨#[]⟩]) := (row_at3 w _ _ _ 35 [.string ⟨#[]⟩, .string ⟨#[]⟩]).below hb (by simp <;> omega)
       have HB2 : Hid (Below w.heap.size w w2) := below_more (below4 w _ _ _ _) hb (by simp <;> omega)
       obtain ⟨p0, p1, p2, p3, p4, p5, p6, p7, p8, p9, p10, pf⟩ := row11 RA.out; have pl := RA.out.lt
       obtain ⟨q0, q1, q2, q3, q4, q5, q6, q7, q8, q9, q10, qf⟩ := row11 RB.out; have ql := RB.out.lt
       clear hb HO)
    | (go_at_call 46; refine (HW.out _).mono ?_; rintro en wx ⟨rfl, hx⟩; have hy := hx.symm; clear hx; subst hy; clear HW)
    | (go_at_call 50; refine (frombits_any _ _).mono ?_; rintro en wy ⟨rfl, hx⟩; have hy := hx.symm; clear hx; subst hy)
    | (go_at_call 51; refine (tobits_any _ _).mono ?_; rintro en wy ⟨rfl, hx⟩; have hy := hx.symm; clear hx; subst hy)
    | (go_at_call 40; refine (H40.out _ _).mono ?_; rintro en wy ⟨rfl, hx⟩; have hy := hx.symm; clear hx; subst hy; clear H40)
    | (refine put_dat (.tmp 6) (.tmp 176) (w.heap.size + 1 + 1) zeroC (mk 3 t 0 R ⟨#[]⟩).cells _ rfl rfl rfl rfl ?hr rfl rfl rfl ?_
       case hr => exact (R6.out.alloc _).drew
       intro w5 hr5 hb5 hf5
       have HB5 : Hid (Below w.heap.size w w5) := (below_drew (HB2.out.alloc HB2.out.size _)).trans (hb5 _ (by omega))
       have R65 := Lib.hid hr5
       have R75 : Hid (Row w5 (w.heap.size + 1 + 1 + 1) 35 [.string ⟨#[]⟩, .string ⟨#[]⟩]) := (hf5 _ (by omega)).trans (R7.out.alloc _).drew
       clear HB2 R6 R7 hb5 hr5 hf5)
    | (have ord := HB5.out.size; refine put_flt (.tmp 7) (.tmp 177) (w.heap.size + 1 + 1 + 1) _ _ _ rfl rfl rfl rfl R75.out rfl rfl rfl ?_; intro w6 hr6 hb6 hf6
       have HB6 : Hid (Below w.heap.size w w6) := HB5.out.trans (hb6 _ (by omega))
       have R76 := Lib.hid hr6
       have R66 := Lib.hid ((hf6 (w.heap.size + 1 + 1) (by omega)).trans R65.out)
       clear ord HB5 R65 R75 hb6 hr6 hf6))
  exact bodyPost_ret (ret_cc rfl _ _ (w.heap.size + 1 + 1) _ (w.heap.size + 1 + 1 + 1) _ rfl rfl R66.out R76.out rfl rfl) rfl ⟨rfl, HB6.out⟩
set_option maxRecDepth 200000 in
set_option maxHeartbeats 4000000 in
theorem rb_flt_quo1 (t s : ByteArray) (n f ro rf rl rc : Int) (pa ia : Option Addr) (pn pc iN ic : Nat) (s2 : ByteArray) (n2 f2 ro2 rf2 rl2 rc2 : Int) (pa2 ia2 : Option Addr) (pn2 pc2 iN2 ic2 : Nat) (be ab kn is : Bool) (r : Nat) (R : Int) (w : World)
    (hO : ∀ w, Calls Tryz.prog 45 #[(Dat.mk 3 t n f s ro rf rl rc pa pn pc ia iN ic).val, (Dat.mk 3 t n2 f2 s2 ro2 rf2 rl2 rc2 pa2 pn2 pc2 ia2 iN2 ic2).val] w fun e w' => e = .returned (.tuple #[.bool be, .bool ab, .bool kn]) ∧ Below w.heap.size w w')
    (hW : ∀ w, Calls Tryz.prog 46 #[.string ⟨#[47]⟩, .bool be, .bool ab, .bool kn] w fun e w' => e = .returned (.tuple #[.bool is, .bool false]) ∧ w' = w)
    (hr : ∀ w, (binOp .quo 71 (.float .f64 f.toNat) (.float .f64 f2.toNat)).run Tryz.prog w = .ok (.float .f64 r) w)
    (h40 : ∀ w, Calls Tryz.prog 40 #[.int .u64 (r : Int)] w fun e w' => e = .returned (.int .u64 R) ∧ w' = w) :
    Calls Tryz.prog 18 #[.string ⟨#[47]⟩, (Dat.mk 3 t n f s ro rf rl rc pa pn pc ia iN ic).val, (Dat.mk 3 t n2 f2 s2 ro2 rf2 rl2 rc2 pa2 pn2 pc2 ia2 iN2 ic2).val] w fun e w' => e = .returned (.tuple #[(mk 3 t 0 R ⟨#[]⟩).val, .agg #[.string ⟨#[]⟩, .string ⟨#[]⟩]]) ∧ Below w.heap.size w w' := by
  have HO := Lib.hid hO
  have HW := Lib.hid hW
  clear hO hW
  have H40 := Lib.hid h40
  clear h40
  unfold Dat.val at *
  unfold mk
  go_enter Tryz.func18, Tryz.ntmps18
  go_wp2_with (first
    | (go_at_call 45; refine (HO.out _).mono ?_; rintro en w2 ⟨rfl, hb⟩
       have RA : Hid (Row w2 w.heap.size 28 [.int .i64 3, .string t, .int .i64 n, .int .u64 f, .string s, .int .i64 ro, .int .i64 rf, .int .i64 rl, .int .i64 rc, .slice pa pn pc, .slice ia iN ic]) := ((((Row.made w 28 [.int .i64 3, .string t, .int .i64 n, .int .u64 f, .string s, .int .i64 ro, .int .i64 rf, .int .i64 rl, .int .i64 rc, .slice pa pn pc, .slice ia iN ic]).alloc _).alloc _).alloc _).below hb (by simp <;> omega)
       have RB : Hid (Row w2 (w.heap.size + 1) 28 [.int .i64 3, .string t, .int .i64 n2, .int .u64 f2, .string s2, .int .i64 ro2, .int .i64 rf2, .int .i64 rl2, .int .i64 rc2, .slice pa2 pn2 pc2, .slice ia2 iN2 ic2]) := (((row_atOne w _ 28 [.int .i64 3, .string t, .int .i64 n2, .int .u64 f2, .string s2, .int .i64 ro2, .int .i64 rf2, .int .i64 rl2, .int .i64 rc2, .slice pa2 pn2 pc2, .slice ia2 iN2 ic2]).alloc _).alloc _).below hb (by simp <;> omega)
       have R6 : Hid (Row w2 (w.heap.size + 1 + 1) 28 zeroC) := ((row_at2 w _ _ 28 zeroC).alloc _).below hb (by simp <;> omega)
       have R7 : Hid (Row w2 (w.heap.size + 1 + 1 + 1) 35 [.string ⟨#[]⟩, .string ⟨#[]⟩]) := (row_at3 w _ _ _ 35 [.string ⟨#[]⟩, .string ⟨#[]⟩]).below hb (by simp <;> omega)
       have HB2 : Hid (Below w.heap.size w w2) := below_more (below4 w _ _ _ _) hb (by simp <;> omega)
       obtain ⟨p0, p1, p2, p3, p4, p5, p6, p7, p8, p9, p10, pf⟩ := row11 RA.out; have pl := RA.out.lt
       obtain ⟨q0, q1, q2, q3, q4, q5, q6, q7, q8, q9, q10, qf⟩ := row11 RB.out; have ql := RB.out.lt
       clear hb HO)
    | (go_at_call 46; refine (HW.out _).mono ?_; rintro en wx ⟨rfl, hx⟩; have hy := hx.symm; clear hx; subst hy; clear HW)
    | (go_at_call 50; refine (frombits_any _ _).mono ?_; rintro en wy ⟨rfl, hx⟩; have hy := hx.symm; clear hx; subst hy)
    | (go_at_call 51; refine (tobits_any _ _).mono ?_; rintro en wy ⟨rfl, hx⟩; have hy := hx.symm; clear hx; subst hy)
    | (go_at_call 40; refine (H40.out _).mono ?_; rintro en wy ⟨rfl, hx⟩; have hy := hx.symm; clear hx; subst hy; clear H40)
    | (refine put_dat (.tmp 6) (.tmp 176) (w.heap.size + 1 + 1) zeroC (mk 3 t 0 R ⟨#[]⟩).cells _ rfl rfl rfl rfl ?hr rfl rfl rfl ?_
       case hr => exact (R6.out.alloc _)
       intro w5 hr5 hb5 hf5
       have HB5 : Hid (Below w.heap.size w w5) := (HB2.out.alloc HB2.out.size _).trans (hb5 _ (by omega))
       have R65 := Lib.hid hr5
       have R75 : Hid (Row w5 (w.heap.size + 1 + 1 + 1) 35 [.string ⟨#[]⟩, .string ⟨#[]⟩]) := (hf5 _ (by omega)).trans (R7.out.alloc _)
       clear HB2 R6 R7 hb5 hr5 hf5)
    | (have ord := HB5.out.size; refine put_flt (.tmp 7) (.tmp 177) (w.heap.size + 1 + 1 + 1) _ _ _ rfl rfl rfl rfl R75.out rfl rfl rfl ?_; intro w6 hr6 hb6 hf6
       have HB6 : Hid (Below w.heap.size w w6) := HB5.out.trans (hb6 _ (by omega))
       have R76 := Lib.hid hr6
       have R66 := Lib.hid ((hf6 (w.heap.size + 1 + 1) (by omega)).trans R65.out)
       clear ord HB5 R65 R75 hb6 hr6 hf6))
  exact bodyPost_ret (ret_cc rfl _ _ (w.heap.size + 1 + 1) _ (w.heap.size + 1 + 1 + 1) _ rfl rfl R66.out R76.out rfl rfl) rfl ⟨rfl, HB6.out⟩
set_option maxRecDepth 200000 in
set_option maxHeartbeats 4000000 in
theorem rb_flt_quo2 (t s : ByteArray) (n f ro rf rl rc : Int) (pa ia : Option Addr) (pn pc iN ic : Nat) (s2 : ByteArray) (n2 f2 ro2 rf2 rl2 rc2 : Int) (pa2 ia2 : Option Addr) (pn2 pc2 iN2 ic2 : Nat) (be ab kn is : Bool) (rr : World → Nat) (R : Int) (w : World)
    (hO : ∀ w, Calls Tryz.prog 45 #[(Dat.mk 3 t n f s ro rf rl rc pa pn pc ia iN ic).val, (Dat.mk 3 t n2 f2 s2 ro2 rf2 rl2 rc2 pa2 pn2 pc2 ia2 iN2 ic2).val] w fun e w' => e = .returned (.tuple #[.bool be, .bool ab, .bool kn]) ∧ Below w.heap.size w w')
    (hW : ∀ w, Calls Tryz.prog 46 #[.string ⟨#[47]⟩, .bool be, .bool ab, .bool kn] w fun e w' => e = .returned (.tuple #[.bool is, .bool false]) ∧ w' = w)
    (hr : ∀ w, (binOp .quo 71 (.float .f64 f.toNat) (.float .f64 f2.toNat)).run Tryz.prog w = .ok (.float .f64 (rr w)) w.drew)
    (h40 : ∀ w' w, Calls Tryz.prog 40 #[.int .u64 (rr w' : Int)] w fun e w' => e = .returned (.int .u64 R) ∧ w' = w) :
    Calls Tryz.prog 18 #[.string ⟨#[47]⟩, (Dat.mk 3 t n f s ro rf rl rc pa pn pc ia iN ic).val, (Dat.mk 3 t n2 f2 s2 ro2 rf2 rl2 rc2 pa2 pn2 pc2 ia2 iN2 ic2).val] w fun e w' => e = .returned (.tuple #[(mk 3 t 0 R ⟨#[]⟩).val, .agg #[.string ⟨#[]⟩, .string ⟨#[]⟩]]) ∧ Below w.heap.size w w' := by
  have HO := Lib.hid hO
  have HW := Lib.hid hW
  clear hO hW
  have H40 := Lib.hid h40
  clear h40
  unfold Dat.val at *
  unfold mk
  go_enter Tryz.func18, Tryz.ntmps18
  go_wp2_with (first
    | (go_at_call 45; refine (HO.out _).mono ?_; rintro en w2 ⟨rfl, hb⟩
       have RA : Hid (Row w2 w.heap.size 28 [.int .i64 3, .string t, .int .i64 n, .int .u64 f, .string s, .int .i64 ro, .int .i64 rf, .int .i64 rl, .int .i64 rc, .slice pa pn pc, .slice ia iN ic]) := ((((Row.made w 28 [.int .i64 3, .string t, .int .i64 n, .int .u64 f, .string s, .int .i64 ro, .int .i64 rf, .int .i64 rl, .int .i64 rc, .slice pa pn pc, .slice ia iN ic]).alloc _).alloc _).alloc _).below hb (by simp <;> omega)
       have RB : Hid (Row w2 (w.heap.size + 1) 28 [.int .i64 3, .string t, .int .i64 n2, .int .u64 f2, .string s2, .int .i64 ro2, .int .i64 rf2, .int .i64 rl2, .int .i64 rc2, .slice pa2 pn2 pc2, .slice ia2 iN2 ic2]) := (((row_atOne w _ 28 [.int .i64 3, .string t, .int .i64 n2, .int .u64 f2, .string s2, .int .i64 ro2, .int .i64 rf2, .int .i64 rl2, .int .i64 rc2, .slice pa2 pn2 pc2, .slice ia2 iN2 ic2]).alloc _).alloc _).below hb (by simp <;> omega)
       have R6 : Hid (Row w2 (w.heap.size + 1 + 1) 28 zeroC) := ((row_at2 w _ _ 28 zeroC).alloc _).below hb (by simp <;> omega)
       have R7 : Hid (Row w2 (w.heap.size + 1 + 1 + 1) 35 [.string ⟨#[]⟩, .string ⟨#[]⟩]) := (row_at3 w _ _ _ 35 [.string ⟨#[]⟩, .string ⟨#[]⟩]).below hb (by simp <;> omega)
       have HB2 : Hid (Below w.heap.size w w2) := below_more (below4 w _ _ _ _) hb (by simp <;> omega)
       obtain ⟨p0, p1, p2, p3, p4, p5, p6, p7, p8, p9, p10, pf⟩ := row11 RA.out; have pl := RA.out.lt
       obtain ⟨q0, q1, q2, q3, q4, q5, q6, q7, q8, q9, q10, qf⟩ := row11 RB.out; have ql := RB.out.lt
       clear hb HO)
    | (go_at_call 46; refine (HW.out _).mono ?_; rintro en wx ⟨rfl, hx⟩; have hy := hx.symm; clear hx; subst hy; clear HW)
    | (go_at_call 50; refine (frombits_any _ _).mono ?_; rintro en wy ⟨rfl, hx⟩; have hy := hx.symm; clear hx; subst hy)
    | (go_at_call 51; refine (tobits_any _ _).mono ?_; rintro en wy ⟨rfl, hx⟩; have hy := hx.symm; clear hx; subst hy)
    | (go_at_call 40; refine (H40.out _ _).mono ?_; rintro en wy ⟨rfl, hx⟩; have hy := hx.symm; clear hx; subst hy; clear H40)
    | (refine put_dat (.tmp 6) (.tmp 176) (w.heap.size + 1 + 1) zeroC (mk 3 t 0 R ⟨#[]⟩).cells _ rfl rfl rfl rfl ?hr rfl rfl rfl ?_
       case hr => exact (R6.out.alloc _).drew
       intro w5 hr5 hb5 hf5
       have HB5 : Hid (Below w.heap.size w w5) := (below_drew (HB2.out.alloc HB2.out.size _)).trans (hb5 _ (by omega))
       have R65 := Lib.hid hr5
       have R75 : Hid (Row w5 (w.heap.size + 1 + 1 + 1) 35 [.string ⟨#[]⟩, .string ⟨#[]⟩]) := (hf5 _ (by omega)).trans (R7.out.alloc _).drew
       clear HB2 R6 R7 hb5 hr5 hf5)
    | (have ord := HB5.out.size; refine put_flt (.tmp 7) (.tmp 177) (w.heap.size + 1 + 1 + 1) _ _ _ rfl rfl rfl rfl R75.out rfl rfl rfl ?_; intro w6 hr6 hb6 hf6
       have HB6 : Hid (Below w.heap.size w w6) := HB5.out.trans (hb6 _ (by omega))
       have R76 := Lib.hid hr6
       have R66 := Lib.hid ((hf6 (w.heap.size + 1 + 1) (by omega)).trans R65.out)
       clear ord HB5 R65 R75 hb6 hr6 hf6))
  exact bodyPost_ret (ret_cc rfl _ _ (w.heap.size + 1 + 1) _ (w.heap.size + 1 + 1 + 1) _ rfl rfl R66.out R76.out rfl rfl) rfl ⟨rfl, HB6.out⟩
end Go.Proofs.YtehakhplglhkdaaGreatDoor
