/- guiseref6.Binary of two ints, no comparison. Conditions: as said. -/
import Derived.Test.YtehakhplglhkdaaGreatDoorRefBinA
namespace Go.Proofs.YtehakhplglhkdaaGreatDoor
set_option linter.unusedVariables false
open Go.RowKit

theorem Row.setFar' {w : World} {g b o : Nat} {t : TypeId} {cs : List Value} (h : Row w g t cs) (hp : g ≠ b) (u : Value) : Row (w.setCell ⟨b, o, none⟩ u) g t cs := h.setFar hp u
theorem below_cell {B b o : Nat} {a w : World} (h : Below B a w) (hp : B ≤ b) (u : Value) : Below B a (w.setCell ⟨b, o, none⟩ u) := h.setCell hp u
theorem go_on3 {p : World → Prop} {W w : World} {g h B : Nat} {c6 c7 : List Value} (h6 : Row W g 28 c6) (h7 : Row W h 35 c7) (hB : Below B w W) (k : ∀ wz, Row wz g 28 c6 → Row wz h 35 c7 → Below B w wz → p wz) : p W := k W h6 h7 hB
set_option maxRecDepth 200000 in
set_option maxHeartbeats 4000000 in
theorem rb_int_ok (op : ByteArray) (t s : ByteArray) (n f ro rf rl rc : Int) (pa ia : Option Addr) (pn pc iN ic : Nat) (s2 : ByteArray) (n2 f2 ro2 rf2 rl2 rc2 : Int) (pa2 ia2 : Option Addr) (pn2 pc2 iN2 ic2 : Nat) (be ab kn is : Bool) (v : Int) (w : World)
    (hO : ∀ w, Calls Tryz.prog 45 #[(Dat.mk 2 t n f s ro rf rl rc pa pn pc ia iN ic).val, (Dat.mk 2 t n2 f2 s2 ro2 rf2 rl2 rc2 pa2 pn2 pc2 ia2 iN2 ic2).val] w fun e w' => e = .returned (.tuple #[.bool be, .bool ab, .bool kn]) ∧ Below w.heap.size w w')
    (hW : ∀ w, Calls Tryz.prog 46 #[.string op, .bool be, .bool ab, .bool kn] w fun e w' => e = .returned (.tuple #[.bool is, .bool false]) ∧ w' = w)
    (hI : ∀ w, Calls Tryz.prog 48 #[.string op, .int .i64 n, .int .i64 n2] w fun e w' => e = .returned (.tuple #[.int .i64 v, .agg #[.string ⟨#[]⟩, .string ⟨#[]⟩], .bool true]) ∧ Below w.heap.size w w') :
    Calls Tryz.prog 18 #[.string op, (Dat.mk 2 t n f s ro rf rl rc pa pn pc ia iN ic).val, (Dat.mk 2 t n2 f2 s2 ro2 rf2 rl2 rc2 pa2 pn2 pc2 ia2 iN2 ic2).val] w fun e w' => e = .returned (.tuple #[(mk 2 t v 0 ⟨#[]⟩).val, .agg #[.string ⟨#[]⟩, .string ⟨#[]⟩]]) ∧ Below w.heap.size w w' := by
  have HO := Lib.hid hO
  have HW := Lib.hid hW
  clear hO hW
  have HI := Lib.hid hI
  clear hI
  unfold Dat.val at *
  unfold mk
  go_enter Tryz.func18, Tryz.ntmps18
  go_wp2_with (first
    | (go_at_call 45; refine (HO.out _).mono ?_; rintro en w2 ⟨rfl, hb⟩
       have RA : Hid (Row w2 w.heap.size 28 [.int .i64 2, .string t, .int .i64 n, .int .u64 f, .string s, .int .i64 ro, .int .i64 rf, .int .i64 rl, .int .i64 rc, .slice pa pn pc, .slice ia iN ic]) := ((((Row.made w 28 [.int .i64 2, .string t, .int .i64 n, .int .u64 f, .string s, .int .i64 ro, .int .i64 rf, .int .i64 rl, .int .i64 rc, .slice pa pn pc, .slice ia iN ic]).alloc _).alloc _).alloc _).below hb (by simp <;> omega)
       have RB : Hid (Row w2 (w.heap.size + 1) 28 [.int .i64 2, .string t, .int .i64 n2, .int .u64 f2, .string s2, .int .i64 ro2, .int .i64 rf2, .int .i64 rl2, .int .i64 rc2, .slice pa2 pn2 pc2, .slice ia2 iN2 ic2]) := (((row_atOne w _ 28 [.int .i64 2, .string t, .int .i64 n2, .int .u64 f2, .string s2, .int .i64 ro2, .int .i64 rf2, .int .i64 rl2, .int .i64 rc2, .slice pa2 pn2 pc2, .slice ia2 iN2 ic2]).alloc _).alloc _).below hb (by simp <;> omega)
       have R6 : Hid (Row w2 (w.heap.size + 1 + 1) 28 zeroC) := ((row_at2 w _ _ 28 zeroC).alloc _).below hb (by simp <;> omega)
       have R7 : Hid (Row w2 (w.heap.size + 1 + 1 + 1) 35 [.string ⟨#[]⟩, .string ⟨#[]⟩]) := (row_at3 w _ _ _ 35 [.string ⟨#[]⟩, .string ⟨#[]⟩]).below hb (by simp <;> omega)
       have HB2 : Hid (Below w.heap.size w w2) := below_more (below4 w _ _ _ _) hb (by simp <;> omega)
       obtain ⟨p0, p1, p2, p3, p4, p5, p6, p7, p8, p9, p10, pf⟩ := row11 RA.out; have pl := RA.out.lt
       obtain ⟨q0, q1, q2, q3, q4, q5, q6, q7, q8, q9, q10, qf⟩ := row11 RB.out; have ql := RB.out.lt
       clear hb HO)
    | (go_at_call 46; refine (HW.out _).mono ?_; rintro en wx ⟨rfl, hx⟩; have hy := hx.symm; clear hx; subst hy; clear HW)
    | (go_at_call 48; have n6' : (w.heap.size + 1 + 1) ≠ w2.heap.size := Nat.ne_of_lt R6.out.lt; have n7' : (w.heap.size + 1 + 1 + 1) ≠ w2.heap.size := Nat.ne_of_lt R7.out.lt; refine (HI.out _).mono ?_; rintro en w3 ⟨rfl, hb⟩
       replace R6 : Hid (Row w3 (w.heap.size + 1 + 1) 28 zeroC) := (R6.out.alloc _).below hb (R6.out.alloc _).lt
       replace R7 : Hid (Row w3 (w.heap.size + 1 + 1 + 1) 35 [.string ⟨#[]⟩, .string ⟨#[]⟩]) := (R7.out.alloc _).below hb (R7.out.alloc _).lt
       have n6 : Hid ((w.heap.size + 1 + 1) ≠ w2.heap.size) := Lib.hid n6'
       have n7 : Hid ((w.heap.size + 1 + 1 + 1) ≠ w2.heap.size) := Lib.hid n7'
       have n13 : Hid (w.heap.size ≤ w2.heap.size) := Lib.hid HB2.out.size
       have R13 : Hid (Row w3 w2.heap.size 28 [.int .i64 2, .string t, .int .i64 0, .int .u64 0, .string ⟨#[]⟩, .int .i64 0, .int .i64 0, .int .i64 0, .int .i64 0, .slice none 0 0, .slice none 0 0]) := (Row.made w2 28 [.int .i64 2, .string t, .int .i64 0, .int .u64 0, .string ⟨#[]⟩, .int .i64 0, .int .i64 0, .int .i64 0, .int .i64 0, .slice none 0 0, .slice none 0 0]).below hb (Row.made w2 28 [.int .i64 2, .string t, .int .i64 0, .int .u64 0, .string ⟨#[]⟩, .int .i64 0, .int .i64 0, .int .i64 0, .int .i64 0, .slice none 0 0, .slice none 0 0]).lt
       have HB3 : Hid (Below w.heap.size w w3) := below_more (HB2.out.alloc HB2.out.size _) hb (by have := HB2.out.size; simp <;> omega)
       clear hb HI HB2 RA RB p0 p1 p2 p3 p4 p5 p6 p7 p8 p9 p10 pf pl q0 q1 q2 q3 q4 q5 q6 q7 q8 q9 q10 qf ql n6' n7'
       obtain ⟨c0, c1, c2, c3, c4, c5, c6, c7, c8, c9, c10, cf⟩ := row11 R13.out; have cl := R13.out.lt
       skip)
    | (refine put_dat (.tmp 6) (.tmp 103) (w.heap.size + 1 + 1) zeroC (mk 2 t v 0 ⟨#[]⟩).cells _ rfl rfl rfl rfl ?hr rfl rfl rfl ?_
       case hr => exact (R6.out.setFar' n6.out _).alloc _
       intro w5 hr5 hb5 hf5
       have HB5 : Hid (Below w.heap.size w w5) := ((below_cell HB3.out n13.out _).alloc (below_cell HB3.out n13.out _).size _).trans (hb5 _ (by omega))
       have R65 := Lib.hid hr5
       have R75 : Hid (Row w5 (w.heap.size + 1 + 1 + 1) 35 [.string ⟨#[]⟩, .string ⟨#[]⟩]) := (hf5 _ (by omega)).trans ((R7.out.setFar' n7.out _).alloc _)
       clear HB3 R6 R7 hb5 hr5 hf5)
    | (refine put_flt (.tmp 7) (.tmp 104) (w.heap.size + 1 + 1 + 1) _ _ _ rfl rfl rfl rfl R75.out rfl rfl rfl ?_; intro w6 hr6 hb6 hf6
       have HB6 : Hid (Below w.heap.size w w6) := HB5.out.trans (hb6 _ (by omega))
       have R76 := Lib.hid hr6
       have R66 := Lib.hid ((hf6 (w.heap.size + 1 + 1) (by omega)).trans R65.out)
       clear HB5 R65 R75 hb6 hr6 hf6))
  exact bodyPost_ret (ret_cc rfl _ _ (w.heap.size + 1 + 1) _ (w.heap.size + 1 + 1 + 1) _ rfl rfl R66.out R76.out rfl rfl) rfl ⟨rfl, HB6.out⟩
set_option maxRecDepth 200000 in
set_option maxHeartbeats 4000000 in
theorem rb_int_no (op x y : ByteArray) (t s : ByteArray) (n f ro rf rl rc : Int) (pa ia : Option Addr) (pn pc iN ic : Nat) (s2 : ByteArray) (n2 f2 ro2 rf2 rl2 rc2 : Int) (pa2 ia2 : Option Addr) (pn2 pc2 iN2 ic2 : Nat) (be ab kn is : Bool) (v : Int) (w : World)
    (hO : ∀ w, Calls Tryz.prog 45 #[(Dat.mk 2 t n f s ro rf rl rc pa pn pc ia iN ic).val, (Dat.mk 2 t n2 f2 s2 ro2 rf2 rl2 rc2 pa2 pn2 pc2 ia2 iN2 ic2).val] w fun e w' => e = .returned (.tuple #[.bool be, .bool ab, .bool kn]) ∧ Below w.heap.size w w')
    (hW : ∀ w, Calls Tryz.prog 46 #[.string op, .bool be, .bool ab, .bool kn] w fun e w' => e = .returned (.tuple #[.bool is, .bool false]) ∧ w' = w)
    (hI : ∀ w, Calls Tryz.prog 48 #[.string op, .int .i64 n, .int .i64 n2] w fun e w' => e = .returned (.tuple #[.int .i64 v, .agg #[.string ⟨#[]⟩, .string ⟨#[]⟩], .bool false]) ∧ Below w.heap.size w w')
    (h44 : ∀ w, Calls Tryz.prog 44 #[.string op, (Dat.mk 2 t n f s ro rf rl rc pa pn pc ia iN ic).val, (Dat.mk 2 t n2 f2 s2 ro2 rf2 rl2 rc2 pa2 pn2 pc2 ia2 iN2 ic2).val] w fun e w' => e = .returned (.agg #[.string x, .string y]) ∧ Below w.heap.size w w') :
    Calls Tryz.prog 18 #[.string op, (Dat.mk 2 t n f s ro rf rl rc pa pn pc ia iN ic).val, (Dat.mk 2 t n2 f2 s2 ro2 rf2 rl2 rc2 pa2 pn2 pc2 ia2 iN2 ic2).val] w fun e w' => e = .returned (.tuple #[zeroD.val, .agg #[.string x, .string y]]) ∧ Below w.heap.size w w' := by
  have HO := Lib.hid hO
  have HW := Lib.hid hW
  clear hO hW
  have HI := Lib.hid hI
  have H44 := Lib.hid h44
  clear hI h44
  unfold Dat.val at *
  go_enter Tryz.func18, Tryz.ntmps18
  go_wp2_with (first
    | (go_at_call 45; refine (HO.out _).mono ?_; rintro en w2 ⟨rfl, hb⟩
       have RA : Hid (Row w2 w.heap.size 28 [.int .i64 2, .string t, .int .i64 n, .int .u64 f, .string s, .int .i64 ro, .int .i64 rf, .int .i64 rl, .int .i64 rc, .slice pa pn pc, .slice ia iN ic]) := ((((Row.made w 28 [.int .i64 2, .string t, .int .i64 n, .int .u64 f, .string s, .int .i64 ro, .int .i64 rf, .int .i64 rl, .int .i64 rc, .slice pa pn pc, .slice ia iN ic]).alloc _).alloc _).alloc _).below hb (by simp <;> omega)
       have RB : Hid (Row w2 (w.heap.size + 1) 28 [.int .i64 2, .string t, .int .i64 n2, .int .u64 f2, .string s2, .int .i64 ro2, .int .i64 rf2, .int .i64 rl2, .int .i64 rc2, .slice pa2 pn2 pc2, .slice ia2 iN2 ic2]) := (((row_atOne w _ 28 [.int .i64 2, .string t, .int .i64 n2, .int .u64 f2, .string s2, .int .i64 ro2, .int .i64 rf2, .int .i64 rl2, .int .i64 rc2, .slice pa2 pn2 pc2, .slice ia2 iN2 ic2]).alloc _).alloc _).below hb (by simp <;> omega)
       have R6 : Hid (Row w2 (w.heap.size + 1 + 1) 28 zeroC) := ((row_at2 w _ _ 28 zeroC).alloc _).below hb (by simp <;> omega)
       have R7 : Hid (Row w2 (w.heap.size + 1 + 1 + 1) 35 [.string ⟨#[]⟩, .string ⟨#[]⟩]) := (row_at3 w _ _ _ 35 [.string ⟨#[]⟩, .string ⟨#[]⟩]).below hb (by simp <;> omega)
       have HB2 : Hid (Below w.heap.size w w2) := below_more (below4 w _ _ _ _) hb (by simp <;> omega)
       obtain ⟨p0, p1, p2, p3, p4, p5, p6, p7, p8, p9, p10, pf⟩ := row11 RA.out; have pl := RA.out.lt
       obtain ⟨q0, q1, q2, q3, q4, q5, q6, q7, q8, q9, q10, qf⟩ := row11 RB.out; have ql := RB.out.lt
       clear hb HO)
    | (go_at_call 46; refine (HW.out _).mono ?_; rintro en wx ⟨rfl, hx⟩; have hy := hx.symm; clear hx; subst hy; clear HW)
    | (go_at_call 48; have n6' : (w.heap.size + 1 + 1) ≠ w2.heap.size := Nat.ne_of_lt R6.out.lt; have n7' : (w.heap.size + 1 + 1 + 1) ≠ w2.heap.size := Nat.ne_of_lt R7.out.lt; refine (HI.out _).mono ?_; rintro en w3 ⟨rfl, hb⟩
       replace R6 : Hid (Row w3 (w.heap.size + 1 + 1) 28 zeroC) := (R6.out.alloc _).below hb (R6.out.alloc _).lt
       replace R7 : Hid (Row w3 (w.heap.size + 1 + 1 + 1) 35 [.string ⟨#[]⟩, .string ⟨#[]⟩]) := (R7.out.alloc _).below hb (R7.out.alloc _).lt
       have n6 : Hid ((w.heap.size + 1 + 1) ≠ w2.heap.size) := Lib.hid n6'
       have n7 : Hid ((w.heap.size + 1 + 1 + 1) ≠ w2.heap.size) := Lib.hid n7'
       have n13 : Hid (w.heap.size ≤ w2.heap.size) := Lib.hid HB2.out.size
       have R13 : Hid (Row w3 w2.heap.size 28 [.int .i64 2, .string t, .int .i64 0, .int .u64 0, .string ⟨#[]⟩, .int .i64 0, .int .i64 0, .int .i64 0, .int .i64 0, .slice none 0 0, .slice none 0 0]) := (Row.made w2 28 [.int .i64 2, .string t, .int .i64 0, .int .u64 0, .string ⟨#[]⟩, .int .i64 0, .int .i64 0, .int .i64 0, .int .i64 0, .slice none 0 0, .slice none 0 0]).below hb (Row.made w2 28 [.int .i64 2, .string t, .int .i64 0, .int .u64 0, .string ⟨#[]⟩, .int .i64 0, .int .i64 0, .int .i64 0, .int .i64 0, .slice none 0 0, .slice none 0 0]).lt
       have HB3 : Hid (Below w.heap.size w w3) := below_more (HB2.out.alloc HB2.out.size _) hb (by have := HB2.out.size; simp <;> omega)
       replace RA : Hid (Row w3 w.heap.size 28 [.int .i64 2, .string t, .int .i64 n, .int .u64 f, .string s, .int .i64 ro, .int .i64 rf, .int .i64 rl, .int .i64 rc, .slice pa pn pc, .slice ia iN ic]) := (RA.out.alloc _).below hb (RA.out.alloc _).lt
       replace RB : Hid (Row w3 (w.heap.size + 1) 28 [.int .i64 2, .string t, .int .i64 n2, .int .u64 f2, .string s2, .int .i64 ro2, .int .i64 rf2, .int .i64 rl2, .int .i64 rc2, .slice pa2 pn2 pc2, .slice ia2 iN2 ic2]) := (RB.out.alloc _).below hb (RB.out.alloc _).lt
       clear hb HI HB2 p0 p1 p2 p3 p4 p5 p6 p7 p8 p9 p10 pf pl q0 q1 q2 q3 q4 q5 q6 q7 q8 q9 q10 qf ql n6' n7'
       obtain ⟨p0, p1, p2, p3, p4, p5, p6, p7, p8, p9, p10, pf⟩ := row11 RA.out; have pl := RA.out.lt
       obtain ⟨q0, q1, q2, q3, q4, q5, q6, q7, q8, q9, q10, qf⟩ := row11 RB.out; have ql := RB.out.lt
       obtain ⟨c0, c1, c2, c3, c4, c5, c6, c7, c8, c9, c10, cf⟩ := row11 R13.out; have cl := R13.out.lt
       skip)
    | (go_at_call 44; refine (H44.out _).mono ?_; rintro en w4 ⟨rfl, hb⟩
       have R64 : Hid (Row w4 (w.heap.size + 1 + 1) 28 zeroC) := (R6.out.alloc _).below hb (R6.out.alloc _).lt
       have R74 : Hid (Row w4 (w.heap.size + 1 + 1 + 1) 35 [.string ⟨#[]⟩, .string ⟨#[]⟩]) := (R7.out.alloc _).below hb (R7.out.alloc _).lt
       have HB4 : Hid (Below w.heap.size w w4) := below_more (HB3.out.alloc HB3.out.size _) hb (by have := HB3.out.size; simp <;> omega)
       clear hb H44 HB3 R6 R7)
    | (refine put_dat (.tmp 6) (.tmp 91) (w.heap.size + 1 + 1) zeroC zeroD.cells _ rfl rfl rfl rfl R64.out rfl rfl rfl ?_; intro w5 hr5 hb5 hf5
       have HB5 : Hid (Below w.heap.size w w5) := HB4.out.trans (hb5 _ (by omega))
       have R65 := Lib.hid hr5
       have R75 : Hid (Row w5 (w.heap.size + 1 + 1 + 1) 35 [.string ⟨#[]⟩, .string ⟨#[]⟩]) := (hf5 _ (by omega)).trans R74.out
       clear HB4 R64 R74 hb5 hr5 hf5)
    | (refine put_flt (.tmp 7) (.tmp 95) (w.heap.size + 1 + 1 + 1) _ _ _ rfl rfl rfl rfl R75.out rfl rfl rfl ?_; intro w6 hr6 hb6 hf6
       have HB6 : Hid (Below w.heap.size w w6) := HB5.out.trans (hb6 _ (by omega))
       have R76 := Lib.hid hr6
       have R66 := Lib.hid ((hf6 (w.heap.size + 1 + 1) (by omega)).trans R65.out)
       clear HB5 R65 R75 hb6 hr6 hf6))
  exact bodyPost_ret (ret_cc rfl _ _ (w.heap.size + 1 + 1) _ (w.heap.size + 1 + 1 + 1) _ rfl rfl R66.out R76.out rfl rfl) rfl ⟨rfl, HB6.out⟩
end Go.Proofs.YtehakhplglhkdaaGreatDoor
