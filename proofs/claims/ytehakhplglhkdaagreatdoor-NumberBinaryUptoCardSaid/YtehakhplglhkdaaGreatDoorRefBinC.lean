/- guiseref6.Binary of two texts, no comparison. Conditions: as said. -/
import Derived.Test.YtehakhplglhkdaaGreatDoorRefBinB
import Derived.Test.YtehakhplglhkdaaGreatDoorRefDigits
namespace Go.Proofs.YtehakhplglhkdaaGreatDoor
set_option linter.unusedVariables false
open Go.RowKit

set_option maxRecDepth 200000 in
set_option maxHeartbeats 4000000 in
theorem rb_txt_cat (t s : ByteArray) (n f ro rf rl rc : Int) (pa ia : Option Addr) (pn pc iN ic : Nat) (s2 : ByteArray) (n2 f2 ro2 rf2 rl2 rc2 : Int) (pa2 ia2 : Option Addr) (pn2 pc2 iN2 ic2 : Nat) (be ab kn is : Bool) (w : World) (h : s.size + s2.size ≤ 65536)
    (hO : ∀ w, Calls Tryz.prog 45 #[(Dat.mk 4 t n f s ro rf rl rc pa pn pc ia iN ic).val, (Dat.mk 4 t n2 f2 s2 ro2 rf2 rl2 rc2 pa2 pn2 pc2 ia2 iN2 ic2).val] w fun e w' => e = .returned (.tuple #[.bool be, .bool ab, .bool kn]) ∧ Below w.heap.size w w')
    (hW : ∀ w, Calls Tryz.prog 46 #[.string ⟨#[43]⟩, .bool be, .bool ab, .bool kn] w fun e w' => e = .returned (.tuple #[.bool is, .bool false]) ∧ w' = w) :
    Calls Tryz.prog 18 #[.string ⟨#[43]⟩, (Dat.mk 4 t n f s ro rf rl rc pa pn pc ia iN ic).val, (Dat.mk 4 t n2 f2 s2 ro2 rf2 rl2 rc2 pa2 pn2 pc2 ia2 iN2 ic2).val] w fun e w' => e = .returned (.tuple #[(mk 4 t 0 0 (s ++ s2)).val, .agg #[.string ⟨#[]⟩, .string ⟨#[]⟩]]) ∧ Below w.heap.size w w' := by
  have HO := Lib.hid hO
  have HW := Lib.hid hW
  clear hO hW
  have h1 : (s.size : Int) + (s2.size : Int) ≤ 65536 := by omega
  have h2 : decide ((65536 : Int) < (s.size : Int) + (s2.size : Int)) = false := decide_eq_false (by omega)
  have h3 : (9223372036854775807 < s.size + s2.size) = False := eq_false (by omega)
  clear h
  unfold Dat.val at *
  unfold mk
  go_enter Tryz.func18, Tryz.ntmps18
  go_wp2_with (first
    | (go_at_call 45; refine (HO.out _).mono ?_; rintro en w2 ⟨rfl, hb⟩
       have RA : Hid (Row w2 w.heap.size 28 [.int .i64 4, .string t, .int .i64 n, .int .u64 f, .string s, .int .i64 ro, .int .i64 rf, .int .i64 rl, .int .i64 rc, .slice pa pn pc, .slice ia iN ic]) := ((((Row.made w 28 [.int .i64 4, .string t, .int .i64 n, .int .u64 f, .string s, .int .i64 ro, .int .i64 rf, .int .i64 rl, .int .i64 rc, .slice pa pn pc, .slice ia iN ic]).alloc _).alloc _).alloc _).below hb (by simp <;> omega)
       have RB : Hid (Row w2 (w.heap.size + 1) 28 [.int .i64 4, .string t, .int .i64 n2, .int .u64 f2, .string s2, .int .i64 ro2, .int .i64 rf2, .int .i64 rl2, .int .i64 rc2, .slice pa2 pn2 pc2, .slice ia2 iN2 ic2]) := (((row_atOne w _ 28 [.int .i64 4, .string t, .int .i64 n2, .int .u64 f2, .string s2, .int .i64 ro2, .int .i64 rf2, .int .i64 rl2, .int .i64 rc2, .slice pa2 pn2 pc2, .slice ia2 iN2 ic2]).alloc _).alloc _).below hb (by simp <;> omega)
       have R6 : Hid (Row w2 (w.heap.size + 1 + 1) 28 zeroC) := ((row_at2 w _ _ 28 zeroC).alloc _).below hb (by simp <;> omega)
       have R7 : Hid (Row w2 (w.heap.size + 1 + 1 + 1) 35 [.string ⟨#[]⟩, .string ⟨#[]⟩]) := (row_at3 w _ _ _ 35 [.string ⟨#[]⟩, .string ⟨#[]⟩]).below hb (by simp <;> omega)
       have HB2 : Hid (Below w.heap.size w w2) := below_more (below4 w _ _ _ _) hb (by simp <;> omega)
       obtain ⟨p0, p1, p2, p3, p4, p5, p6, p7, p8, p9, p10, pf⟩ := row11 RA.out; have pl := RA.out.lt
       obtain ⟨q0, q1, q2, q3, q4, q5, q6, q7, q8, q9, q10, qf⟩ := row11 RB.out; have ql := RB.out.lt
       clear hb HO)
    | (go_at_call 46; refine (HW.out _).mono ?_; rintro en wx ⟨rfl, hx⟩; have hy := hx.symm; clear hx; subst hy; clear HW)
    | (refine put_dat (.tmp 6) (.tmp 138) (w.heap.size + 1 + 1) zeroC (mk 4 t 0 0 (s ++ s2)).cells _ rfl rfl rfl rfl ?hr rfl rfl rfl ?_
       case hr => exact (R6.out.alloc _)
       intro w5 hr5 hb5 hf5
       have HB5 : Hid (Below w.heap.size w w5) := (HB2.out.alloc HB2.out.size _).trans (hb5 _ (by omega))
       have R65 := Lib.hid hr5
       have R75 : Hid (Row w5 (w.heap.size + 1 + 1 + 1) 35 [.string ⟨#[]⟩, .string ⟨#[]⟩]) := (hf5 _ (by omega)).trans (R7.out.alloc _)
       clear HB2 R6 R7 hb5 hr5 hf5)
    | (refine put_flt (.tmp 7) (.tmp 139) (w.heap.size + 1 + 1 + 1) _ _ _ rfl rfl rfl rfl R75.out rfl rfl rfl ?_; intro w6 hr6 hb6 hf6
       have HB6 : Hid (Below w.heap.size w w6) := HB5.out.trans (hb6 _ (by omega))
       have R76 := Lib.hid hr6
       have R66 := Lib.hid ((hf6 (w.heap.size + 1 + 1) (by omega)).trans R65.out)
       clear HB5 R65 R75 hb6 hr6 hf6))
  exact bodyPost_ret (ret_cc rfl _ _ (w.heap.size + 1 + 1) _ (w.heap.size + 1 + 1 + 1) _ rfl rfl R66.out R76.out rfl rfl) rfl ⟨rfl, HB6.out⟩
set_option maxRecDepth 200000 in
set_option maxHeartbeats 4000000 in
theorem rb_txt_long (t s : ByteArray) (n f ro rf rl rc : Int) (pa ia : Option Addr) (pn pc iN ic : Nat) (s2 : ByteArray) (n2 f2 ro2 rf2 rl2 rc2 : Int) (pa2 ia2 : Option Addr) (pn2 pc2 iN2 ic2 : Nat) (be ab kn is : Bool) (w : World) (h : 65536 < s.size + s2.size) (hx : s.size + s2.size ≤ 4000000)
    (hO : ∀ w, Calls Tryz.prog 45 #[(Dat.mk 4 t n f s ro rf rl rc pa pn pc ia iN ic).val, (Dat.mk 4 t n2 f2 s2 ro2 rf2 rl2 rc2 pa2 pn2 pc2 ia2 iN2 ic2).val] w fun e w' => e = .returned (.tuple #[.bool be, .bool ab, .bool kn]) ∧ Below w.heap.size w w')
    (hW : ∀ w, Calls Tryz.prog 46 #[.string ⟨#[43]⟩, .bool be, .bool ab, .bool kn] w fun e w' => e = .returned (.tuple #[.bool is, .bool false]) ∧ w' = w) :
    Calls Tryz.prog 18 #[.string ⟨#[43]⟩, (Dat.mk 4 t n f s ro rf rl rc pa pn pc ia iN ic).val, (Dat.mk 4 t n2 f2 s2 ro2 rf2 rl2 rc2 pa2 pn2 pc2 ia2 iN2 ic2).val] w fun e w' => e = .returned (.tuple #[zeroD.val, .agg #[.string sCount, .string ⟨(Lib.itoa ((s.size : Int) + (s2.size : Int))).toArray⟩]]) ∧ Below w.heap.size w w' := by
  have HO := Lib.hid hO
  have HW := Lib.hid hW
  clear hO hW
  have h1 : (65536 : Int) < (s.size : Int) + (s2.size : Int) := by omega
  have h2 : decide ((65536 : Int) < (s.size : Int) + (s2.size : Int)) = true := decide_eq_true h1
  have h3 : (s.size : Int) + (s2.size : Int) ≤ 9223372036854775806 := by omega
  have HD := Lib.hid fun w => refdigits_nat w (s.size + s2.size) (by omega)
  rw [show (((s.size + s2.size : Nat) : Int)) = (s.size : Int) + (s2.size : Int) from Int.natCast_add _ _] at HD
  generalize (⟨(Lib.itoa ((s.size : Int) + (s2.size : Int))).toArray⟩ : ByteArray) = m at *
  clear h hx
  unfold Dat.val at *
  go_enter Tryz.func18, Tryz.ntmps18
  go_wp2_with (first
    | (go_at_call 45; refine (HO.out _).mono ?_; rintro en w2 ⟨rfl, hb⟩
       have RA : Hid (Row w2 w.heap.size 28 [.int .i64 4, .string t, .int .i64 n, .int .u64 f, .string s, .int .i64 ro, .int .i64 rf, .int .i64 rl, .int .i64 rc, .slice pa pn pc, .slice ia iN ic]) := ((((Row.made w 28 [.int .i64 4, .string t, .int .i64 n, .int .u64 f, .string s, .int .i64 ro, .int .i64 rf, .int .i64 rl, .int .i64 rc, .slice pa pn pc, .slice ia iN ic]).alloc _).alloc _).alloc _).below hb (by simp <;> omega)
       have RB : Hid (Row w2 (w.heap.size + 1) 28 [.int .i64 4, .string t, .int .i64 n2, .int .u64 f2, .string s2, .int .i64 ro2, .int .i64 rf2, .int .i64 rl2, .int .i64 rc2, .slice pa2 pn2 pc2, .slice ia2 iN2 ic2]) := (((row_atOne w _ 28 [.int .i64 4, .string t, .int .i64 n2, .int .u64 f2, .string s2, .int .i64 ro2, .int .i64 rf2, .int .i64 rl2, .int .i64 rc2, .slice pa2 pn2 pc2, .slice ia2 iN2 ic2]).alloc _).alloc _).below hb (by simp <;> omega)
       have R6 : Hid (Row w2 (w.heap.size + 1 + 1) 28 zeroC) := ((row_at2 w _ _ 28 zeroC).alloc _).below hb (by simp <;> omega)
       have R7 : Hid (Row w2 (w.heap.size + 1 + 1 + 1) 35 [.string ⟨#[]⟩, .string ⟨#[]⟩]) := (row_at3 w _ _ _ 35 [.string ⟨#[]⟩, .string ⟨#[]⟩]).below hb (by simp <;> omega)
       have HB2 : Hid (Below w.heap.size w w2) := below_more (below4 w _ _ _ _) hb (by simp <;> omega)
       obtain ⟨p0, p1, p2, p3, p4, p5, p6, p7, p8, p9, p10, pf⟩ := row11 RA.out; have pl := RA.out.lt
       obtain ⟨q0, q1, q2, q3, q4, q5, q6, q7, q8, q9, q10, qf⟩ := row11 RB.out; have ql := RB.out.lt
       clear hb HO)
    | (go_at_call 46; refine (HW.out _).mono ?_; rintro en wx ⟨rfl, hx⟩; have hy := hx.symm; clear hx; subst hy; clear HW)
    | (go_at_call 49; refine (HD.out _).mono ?_; rintro en w3 ⟨rfl, hb⟩
       replace R6 : Hid (Row w3 (w.heap.size + 1 + 1) 28 zeroC) := (R6.out.alloc _).below hb (R6.out.alloc _).lt
       replace R7 : Hid (Row w3 (w.heap.size + 1 + 1 + 1) 35 [.string ⟨#[]⟩, .string ⟨#[]⟩]) := (R7.out.alloc _).below hb (R7.out.alloc _).lt
       have HB3 : Hid (Below w.heap.size w w3) := below_more (HB2.out.alloc HB2.out.size _) hb (by have := HB2.out.size; simp <;> omega)
       clear hb HD HB2 RA RB p0 p1 p2 p3 p4 p5 p6 p7 p8 p9 p10 pf pl q0 q1 q2 q3 q4 q5 q6 q7 q8 q9 q10 qf ql)
    | (go_at_call 41; refine (reffault_any _ _ _).mono ?_; rintro en w4 ⟨rfl, hb⟩
       have R64 : Hid (Row w4 (w.heap.size + 1 + 1) 28 zeroC) := R6.out.below hb R6.out.lt
       have R74 : Hid (Row w4 (w.heap.size + 1 + 1 + 1) 35 [.string ⟨#[]⟩, .string ⟨#[]⟩]) := R7.out.below hb R7.out.lt
       have HB4 : Hid (Below w.heap.size w w4) := below_more HB3.out hb HB3.out.size
       clear hb HB3 R6 R7)
    | (refine put_dat (.tmp 6) (.tmp 122) (w.heap.size + 1 + 1) zeroC zeroD.cells _ rfl rfl rfl rfl R64.out rfl rfl rfl ?_; intro w5 hr5 hb5 hf5
       have HB5 : Hid (Below w.heap.size w w5) := HB4.out.trans (hb5 _ (by omega))
       have R65 := Lib.hid hr5
       have R75 : Hid (Row w5 (w.heap.size + 1 + 1 + 1) 35 [.string ⟨#[]⟩, .string ⟨#[]⟩]) := (hf5 _ (by omega)).trans R74.out
       clear HB4 R64 R74 hb5 hr5 hf5)
    | (refine put_flt (.tmp 7) (.tmp 131) (w.heap.size + 1 + 1 + 1) _ _ _ rfl rfl rfl rfl R75.out rfl rfl rfl ?_; intro w6 hr6 hb6 hf6
       have HB6 : Hid (Below w.heap.size w w6) := HB5.out.trans (hb6 _ (by omega))
       have R76 := Lib.hid hr6
       have R66 := Lib.hid ((hf6 (w.heap.size + 1 + 1) (by omega)).trans R65.out)
       clear HB5 R65 R75 hb6 hr6 hf6))
  exact bodyPost_ret (ret_cc rfl _ _ (w.heap.size + 1 + 1) _ (w.heap.size + 1 + 1 + 1) _ rfl rfl R66.out R76.out rfl rfl) rfl ⟨rfl, HB6.out⟩
set_option maxRecDepth 200000 in
set_option maxHeartbeats 4000000 in
theorem rb_txt_no (op x y : ByteArray) (t s : ByteArray) (n f ro rf rl rc : Int) (pa ia : Option Addr) (pn pc iN ic : Nat) (s2 : ByteArray) (n2 f2 ro2 rf2 rl2 rc2 : Int) (pa2 ia2 : Option Addr) (pn2 pc2 iN2 ic2 : Nat) (be ab kn is : Bool) (w : World) (h1 : (op.toList == [43]) = false) (h2 : (op.toList != [43]) = true)
    (hO : ∀ w, Calls Tryz.prog 45 #[(Dat.mk 4 t n f s ro rf rl rc pa pn pc ia iN ic).val, (Dat.mk 4 t n2 f2 s2 ro2 rf2 rl2 rc2 pa2 pn2 pc2 ia2 iN2 ic2).val] w fun e w' => e = .returned (.tuple #[.bool be, .bool ab, .bool kn]) ∧ Below w.heap.size w w')
    (hW : ∀ w, Calls Tryz.prog 46 #[.string op, .bool be, .bool ab, .bool kn] w fun e w' => e = .returned (.tuple #[.bool is, .bool false]) ∧ w' = w)
    (h44 : ∀ w, Calls Tryz.prog 44 #[.string op, (Dat.mk 4 t n f s ro rf rl rc pa pn pc ia iN ic).val, (Dat.mk 4 t n2 f2 s2 ro2 rf2 rl2 rc2 pa2 pn2 pc2 ia2 iN2 ic2).val] w fun e w' => e = .returned (.agg #[.string x, .string y]) ∧ Below w.heap.size w w') :
    Calls Tryz.prog 18 #[.string op, (Dat.mk 4 t n f s ro rf rl rc pa pn pc ia iN ic).val, (Dat.mk 4 t n2 f2 s2 ro2 rf2 rl2 rc2 pa2 pn2 pc2 ia2 iN2 ic2).val] w fun e w' => e = .returned (.tuple #[zeroD.val, .agg #[.string x, .string y]]) ∧ Below w.heap.size w w' := by
  have HO := Lib.hid hO
  have HW := Lib.hid hW
  clear hO hW
  have H44 := Lib.hid h44
  clear h44
  unfold Dat.val at *
  go_enter Tryz.func18, Tryz.ntmps18
  go_wp2_with (first
    | (go_at_call 45; refine (HO.out _).mono ?_; rintro en w2 ⟨rfl, hb⟩
       have RA : Hid (Row w2 w.heap.size 28 [.int .i64 4, .string t, .int .i64 n, .int .u64 f, .string s, .int .i64 ro, .int .i64 rf, .int .i64 rl, .int .i64 rc, .slice pa pn pc, .slice ia iN ic]) := ((((Row.made w 28 [.int .i64 4, .string t, .int .i64 n, .int .u64 f, .string s, .int .i64 ro, .int .i64 rf, .int .i64 rl, .int .i64 rc, .slice pa pn pc, .slice ia iN ic]).alloc _).alloc _).alloc _).below hb (by simp <;> omega)
       have RB : Hid (Row w2 (w.heap.size + 1) 28 [.int .i64 4, .string t, .int .i64 n2, .int .u64 f2, .string s2, .int .i64 ro2, .int .i64 rf2, .int .i64 rl2, .int .i64 rc2, .slice pa2 pn2 pc2, .slice ia2 iN2 ic2]) := (((row_atOne w _ 28 [.int .i64 4, .string t, .int .i64 n2, .int .u64 f2, .string s2, .int .i64 ro2, .int .i64 rf2, .int .i64 rl2, .int .i64 rc2, .slice pa2 pn2 pc2, .slice ia2 iN2 ic2]).alloc _).alloc _).below hb (by simp <;> omega)
       have R6 : Hid (Row w2 (w.heap.size + 1 + 1) 28 zeroC) := ((row_at2 w _ _ 28 zeroC).alloc _).below hb (by simp <;> omega)
       have R7 : Hid (Row w2 (w.heap.size + 1 + 1 + 1) 35 [.string ⟨#[]⟩, .string ⟨#[]⟩]) := (row_at3 w _ _ _ 35 [.string ⟨#[]⟩, .string ⟨#[]⟩]).below hb (by simp <;> omega)
       have HB2 : Hid (Below w.heap.size w w2) := below_more (below4 w _ _ _ _) hb (by simp <;> omega)
       obtain ⟨p0, p1, p2, p3, p4, p5, p6, p7, p8, p9, p10, pf⟩ := row11 RA.out; have pl := RA.out.lt
       obtain ⟨q0, q1, q2, q3, q4, q5, q6, q7, q8, q9, q10, qf⟩ := row11 RB.out; have ql := RB.out.lt
       clear hb HO)
    | (go_at_call 46; refine (HW.out _).mono ?_; rintro en wx ⟨rfl, hx⟩; have hy := hx.symm; clear hx; subst hy; clear HW)
    | (go_at_call 44; refine (H44.out _).mono ?_; rintro en w4 ⟨rfl, hb⟩
       have R64 : Hid (Row w4 (w.heap.size + 1 + 1) 28 zeroC) := (R6.out.alloc _).below hb (R6.out.alloc _).lt
       have R74 : Hid (Row w4 (w.heap.size + 1 + 1 + 1) 35 [.string ⟨#[]⟩, .string ⟨#[]⟩]) := (R7.out.alloc _).below hb (R7.out.alloc _).lt
       have HB4 : Hid (Below w.heap.size w w4) := below_more (HB2.out.alloc HB2.out.size _) hb (by have := HB2.out.size; simp <;> omega)
       clear hb H44 HB2 R6 R7)
    | (refine put_dat (.tmp 6) (.tmp 109) (w.heap.size + 1 + 1) zeroC zeroD.cells _ rfl rfl rfl rfl R64.out rfl rfl rfl ?_; intro w5 hr5 hb5 hf5
       have HB5 : Hid (Below w.heap.size w w5) := HB4.out.trans (hb5 _ (by omega))
       have R65 := Lib.hid hr5
       have R75 : Hid (Row w5 (w.heap.size + 1 + 1 + 1) 35 [.string ⟨#[]⟩, .string ⟨#[]⟩]) := (hf5 _ (by omega)).trans R74.out
       clear HB4 R64 R74 hb5 hr5 hf5)
    | (refine put_flt (.tmp 7) (.tmp 113) (w.heap.size + 1 + 1 + 1) _ _ _ rfl rfl rfl rfl R75.out rfl rfl rfl ?_; intro w6 hr6 hb6 hf6
       have HB6 : Hid (Below w.heap.size w w6) := HB5.out.trans (hb6 _ (by omega))
       have R76 := Lib.hid hr6
       have R66 := Lib.hid ((hf6 (w.heap.size + 1 + 1) (by omega)).trans R65.out)
       clear HB5 R65 R75 hb6 hr6 hf6))
  exact bodyPost_ret (ret_cc rfl _ _ (w.heap.size + 1 + 1) _ (w.heap.size + 1 + 1 + 1) _ rfl rfl R66.out R76.out rfl rfl) rfl ⟨rfl, HB6.out⟩
end Go.Proofs.YtehakhplglhkdaaGreatDoor
