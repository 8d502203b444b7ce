/- guiseref6.Binary of two ints that has a fault. Conditions: as said. -/
import Derived.Test.YtehakhplglhkdaaGreatDoorRefBinB
import Derived.Test.YtehakhplglhkdaaGreatDoorBin3
import Derived.Deep.RegionHeld3
namespace Go.Proofs.YtehakhplglhkdaaGreatDoor
set_option linter.unusedVariables false
open Go.RowKit

set_option maxRecDepth 200000 in
set_option maxHeartbeats 4000000 in
theorem rb_int_flt (op x y : ByteArray) (t s : ByteArray) (n f ro rf rl rc : Int) (pa ia : Option Addr) (pn pc iN ic : Nat) (s2 : ByteArray) (n2 f2 ro2 rf2 rl2 rc2 : Int) (pa2 ia2 : Option Addr) (pn2 pc2 iN2 ic2 : Nat) (be ab kn is : Bool) (v : Int) (hx : (x.toList == []) = false) (hx2 : (x.toList != []) = true) (w : World)
    (hO : ∀ w, Calls Tryz.prog 45 #[(Dat.mk 2 t n f s ro rf rl rc pa pn pc ia iN ic).val, (Dat.mk 2 t n2 f2 s2 ro2 rf2 rl2 rc2 pa2 pn2 pc2 ia2 iN2 ic2).val] w fun e w' => e = .returned (.tuple #[.bool be, .bool ab, .bool kn]) ∧ Below w.heap.size w w')
    (hW : ∀ w, Calls Tryz.prog 46 #[.string op, .bool be, .bool ab, .bool kn] w fun e w' => e = .returned (.tuple #[.bool is, .bool false]) ∧ w' = w)
    (hI : ∀ w, Calls Tryz.prog 48 #[.string op, .int .i64 n, .int .i64 n2] w fun e w' => e = .returned (.tuple #[.int .i64 v, .agg #[.string x, .string y], .bool true]) ∧ Below w.heap.size w w') :
    Calls Tryz.prog 18 #[.string op, (Dat.mk 2 t n f s ro rf rl rc pa pn pc ia iN ic).val, (Dat.mk 2 t n2 f2 s2 ro2 rf2 rl2 rc2 pa2 pn2 pc2 ia2 iN2 ic2).val] w fun e w' => e = .returned (.tuple #[zeroD.val, .agg #[.string x, .string y]]) ∧ Below w.heap.size w w' := by
  have HO := Lib.hid hO
  have HW := Lib.hid hW
  clear hO hW
  have HI := Lib.hid hI
  clear hI
  unfold Dat.val at *
  go_enter Tryz.func18, Tryz.ntmps18
  go_wp2_with (first
    | (go_at_call 45; refine (HO.out _).mono ?_; rintro en w2 ⟨rfl, hb⟩
       have RA : Hid (Row w2 w.heap.size 28 [.int .i64 2, .string t, .int .i64 n, .int .u64 f, .string s, .int .i64 ro, .int .i64 rf, .int .i64 rl, .int .i64 rc, .slice pa pn pc, .slice ia iN ic]) := ((((Row.made w 28 [.int .i64 2, .string t, .int .i64 n, .int .u64 f, .string s, .int .i64 ro, .int .i64 rf, .int .i64 rl, .int .i64 rc, .slice pa pn pc, .slice ia iN ic]).alloc _).alloc _).alloc _).below hb (by simp <;> omega)
       have RB : Hid (Row w2 (w.heap.size + 1) 28 [.int .i64 2, .string t, .int .i64 n2, .int .u64 f2, .string s2, .int .i64 ro2, .int .i64 rf2, .int .i64 rl2, .int .i64 rc2, .slice pa2 pn2 pc2, .slice ia2 iN2 ic2]) := (((row_atOne w _ 28 [.int .i64 2, .string t, .int .i64 n2, .int .u64 f2, .string s2, .int .i64 ro2, .int .i64 rf2, .int .i64 rl2, .int .i64 rc2, .slice pa2 pn2 pc2, .slice ia2 iN2 ic2]).alloc _).alloc _).below hb (by simp <;> omega)
       have R6 : Hid (Row w2 (w.heap.size + 1 + 1) 28 zeroC) := ((row_at2 w _ _ 28 zeroC).alloc _).below hb (by simp <;> omega)
       have R7 : Hid (Row w2 (w.heap.size + 1 + 1 + 1) 35 [.string ⟨#[]⟩, .string ⟨#[]⟩]) := (row_at3 w _ _ _ 35 [.string ⟨#[]⟩, .string ⟨#[]⟩]).below hb (by simp <;> omega)
       have HB2 : Hid (Below w.heap.size w w2) := below_more (below4 w _ _ _ _) hb (by simp <;> omega)
       obtain ⟨p0, p1, p2, p3, p4, p5, p6, p7, p8, p9, p10, pf⟩ := row11 RA.out; have pl := RA.out.lt
       obtain ⟨q0, q1, q2, q3, q4, q5, q6, q7, q8, q9, q10, qf⟩ := row11 RB.out; have ql := RB.out.lt
       clear hb HO)
    | (go_at_call 46; refine (HW.out _).mono ?_; rintro en wx ⟨rfl, hx⟩; have hy := hx.symm; clear hx; subst hy; clear HW)
    | (go_at_call 48; have n6' : (w.heap.size + 1 + 1) ≠ w2.heap.size := Nat.ne_of_lt R6.out.lt; have n7' : (w.heap.size + 1 + 1 + 1) ≠ w2.heap.size := Nat.ne_of_lt R7.out.lt; refine (HI.out _).mono ?_; rintro en w3 ⟨rfl, hb⟩
       replace R6 : Hid (Row w3 (w.heap.size + 1 + 1) 28 zeroC) := (R6.out.alloc _).below hb (R6.out.alloc _).lt
       replace R7 : Hid (Row w3 (w.heap.size + 1 + 1 + 1) 35 [.string ⟨#[]⟩, .string ⟨#[]⟩]) := (R7.out.alloc _).below hb (R7.out.alloc _).lt
       have n6 : Hid ((w.heap.size + 1 + 1) ≠ w2.heap.size) := Lib.hid n6'
       have n7 : Hid ((w.heap.size + 1 + 1 + 1) ≠ w2.heap.size) := Lib.hid n7'
       have n13 : Hid (w.heap.size ≤ w2.heap.size) := Lib.hid HB2.out.size
       have R13 : Hid (Row w3 w2.heap.size 28 [.int .i64 2, .string t, .int .i64 0, .int .u64 0, .string ⟨#[]⟩, .int .i64 0, .int .i64 0, .int .i64 0, .int .i64 0, .slice none 0 0, .slice none 0 0]) := (Row.made w2 28 [.int .i64 2, .string t, .int .i64 0, .int .u64 0, .string ⟨#[]⟩, .int .i64 0, .int .i64 0, .int .i64 0, .int .i64 0, .slice none 0 0, .slice none 0 0]).below hb (Row.made w2 28 [.int .i64 2, .string t, .int .i64 0, .int .u64 0, .string ⟨#[]⟩, .int .i64 0, .int .i64 0, .int .i64 0, .int .i64 0, .slice none 0 0, .slice none 0 0]).lt
       have HB3 : Hid (Below w.heap.size w w3) := below_more (HB2.out.alloc HB2.out.size _) hb (by have := HB2.out.size; simp <;> omega)
       clear hb HI HB2 RA RB p0 p1 p2 p3 p4 p5 p6 p7 p8 p9 p10 pf pl q0 q1 q2 q3 q4 q5 q6 q7 q8 q9 q10 qf ql n6' n7'
       obtain ⟨c0, c1, c2, c3, c4, c5, c6, c7, c8, c9, c10, cf⟩ := row11 R13.out; have cl := R13.out.lt
       skip))
  obtain ⟨w4, S6, S7, S15, SB, e⟩ : ∃ w4, Row w4 (w.heap.size + 1 + 1) 28 [.int .i64 0, .string ⟨#[]⟩, .int .i64 0, .int .u64 0, .string ⟨#[]⟩, .int .i64 0, .int .i64 0, .int .i64 0, .int .i64 0, .slice none 0 0, .slice none 0 0] ∧ Row w4 (w.heap.size + 1 + 1 + 1) 35 [.string ⟨#[]⟩, .string ⟨#[]⟩] ∧ Row w4 w3.heap.size 35 [.string x, .string y] ∧ Below w.heap.size w w4 ∧ w3.alloc (.cells ([.string x, .string y] : List Value).toArray 35) = w4 :=
    ⟨_, R6.out.alloc _, R7.out.alloc _, Row.made w3 35 _, HB3.out.alloc HB3.out.size _, rfl⟩
  have d1 : w3.heap.size ≠ (w.heap.size + 1 + 1) := Nat.ne_of_gt R6.out.lt
  have d2 : w3.heap.size ≠ (w.heap.size + 1 + 1 + 1) := Nat.ne_of_gt R7.out.lt
  have d1' : (w.heap.size + 1 + 1) ≠ w3.heap.size := Nat.ne_of_lt R6.out.lt
  have d2' : (w.heap.size + 1 + 1 + 1) ≠ w3.heap.size := Nat.ne_of_lt R7.out.lt
  have d3 : (w.heap.size + 1 + 1) ≠ (w.heap.size + 1 + 1 + 1) := by omega
  have d4 : (w.heap.size + 1 + 1 + 1) ≠ (w.heap.size + 1 + 1) := by omega
  have d5 : w.heap.size ≤ (w.heap.size + 1 + 1) := by omega
  have d6 : w.heap.size ≤ (w.heap.size + 1 + 1 + 1) := by omega
  rw [e]
  clear e R6 R7 HB3 c0 c1 c2 c3 c4 c5 c6 c7 c8 c9 c10 cf cl
  obtain ⟨c0, c1, c2, c3, c4, c5, c6, c7, c8, c9, c10, cf⟩ := row11 S6
  have z0 := S7.cell 0
  have z1 := S7.cell 1
  have zf := S7.free
  have k0 := S15.cell 0
  have k1 := S15.cell 1
  simp only [List.getElem?_cons_zero, List.getElem?_cons_succ] at z0 z1 k0 k1
  replace S6 := Lib.hid S6
  replace S7 := Lib.hid S7
  replace SB := Lib.hid SB
  clear S15
  go_region_held3 (fun w' => w'.cell? ⟨w3.heap.size, 0, none⟩ = some (.string x) ∧ w'.cell? ⟨w3.heap.size, 1, none⟩ = some (.string y)) (first | go_keep | exact ⟨k0, k1⟩) (fail)
  have T6 := Row.setFar' (o := 1) (Row.setFar' (o := 0) (set11 (v0 := .int .i64 0) (v1 := .string ⟨#[]⟩) (v2 := .int .i64 0) (v3 := .int .u64 0) (v4 := .string ⟨#[]⟩) (v5 := .int .i64 0) (v6 := .int .i64 0) (v7 := .int .i64 0) (v8 := .int .i64 0) (v9 := .slice none 0 0) (v10 := .slice none 0 0) S6.out) d3 (.string x)) d3 (.string y)
  have T7 := set2 (v0 := .string x) (v1 := .string y) (far11 (v0 := .int .i64 0) (v1 := .string ⟨#[]⟩) (v2 := .int .i64 0) (v3 := .int .u64 0) (v4 := .string ⟨#[]⟩) (v5 := .int .i64 0) (v6 := .int .i64 0) (v7 := .int .i64 0) (v8 := .int .i64 0) (v9 := .slice none 0 0) (v10 := .slice none 0 0) S7.out d4)
  have TB := below_cell (o := 1) (below_cell (o := 0) (below11 (v0 := .int .i64 0) (v1 := .string ⟨#[]⟩) (v2 := .int .i64 0) (v3 := .int .u64 0) (v4 := .string ⟨#[]⟩) (v5 := .int .i64 0) (v6 := .int .i64 0) (v7 := .int .i64 0) (v8 := .int .i64 0) (v9 := .slice none 0 0) (v10 := .slice none 0 0) SB.out d5) d6 (.string x)) d6 (.string y)
  all_goals
    generalize (((((((((((((w4.setCell _ _).setCell _ _).setCell _ _).setCell _ _).setCell _ _).setCell _ _).setCell _ _).setCell _ _).setCell _ _).setCell _ _).setCell _ _).setCell _ _).setCell _ _) = wz at T6 T7 TB ⊢
    replace T6 := Lib.hid T6
    replace T7 := Lib.hid T7
    replace TB := Lib.hid TB
    go_wp2
    exact bodyPost_ret (ret_cc rfl _ _ (w.heap.size + 1 + 1) _ (w.heap.size + 1 + 1 + 1) _ rfl rfl T6.out.drew T7.out.drew rfl rfl) rfl ⟨rfl, below_drew TB.out⟩
end Go.Proofs.YtehakhplglhkdaaGreatDoor
