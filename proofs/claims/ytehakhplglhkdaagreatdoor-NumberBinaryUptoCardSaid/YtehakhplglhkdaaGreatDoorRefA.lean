/- guiseref6.wrong, guiseref6.whether. Conditions: the texts are short. -/
import Derived.Test.YtehakhplglhkdaaGreatDoorBin17N
import Derived.Test.YtehakhplglhkdaaGreatDoorUnaryR
namespace Go.Proofs.YtehakhplglhkdaaGreatDoor
set_option linter.unusedVariables false
open Go.RowKit

theorem set2 {w : World} {g : Nat} {t : TypeId} {o0 o1 v0 v1 : Value} (h : Row w g t [o0, o1]) : Row ((w.setCell ⟨g, 0, none⟩ v0).setCell ⟨g, 1, none⟩ v1) g t [v0, v1] := by
  have := (h.set 0 v0).set 1 v1
  simpa using this
theorem ret_f {fn : Func} {p : Tmp} (h : fn.results = #[.cell p 35]) (tmps : Array Value) (w : World) (g : Nat) (cs : List Value) (hp : tmps.getD p undef = .pointer (some ⟨g, 0, none⟩)) (hr : Row w g 35 cs) (hl : cs.length = 2) :
    (results fn tmps).run Tryz.prog w = .ok (.agg cs.toArray) w :=
  results_cell_row h tmps w g 35 cs.toArray (0, 0) _ hp hr Tryz.underlying35 rfl (by rw [size35]; simp [hl])
set_option maxRecDepth 200000 in
set_option maxHeartbeats 8000000 in
theorem wrong_any (op t t2 s s2 : ByteArray) (k k2 n f ro rf rl rc n2 f2 ro2 rf2 rl2 rc2 : Int) (pa ia pa2 ia2 : Option Addr) (pn pc iN ic pn2 pc2 iN2 ic2 : Nat) (w : World) (hs : op.size + t.size + t2.size ≤ 3000000) :
    Calls Tryz.prog 44 #[.string op, (Dat.mk k t n f s ro rf rl rc pa pn pc ia iN ic).val, (Dat.mk k2 t2 n2 f2 s2 ro2 rf2 rl2 rc2 pa2 pn2 pc2 ia2 iN2 ic2).val] w fun e w' => e = .returned (.agg #[.string sOperand, .string (op ++ ⟨#[32]⟩ ++ nameOf (Dat.mk k t n f s ro rf rl rc pa pn pc ia iN ic) ++ ⟨#[32]⟩ ++ nameOf (Dat.mk k2 t2 n2 f2 s2 ro2 rf2 rl2 rc2 pa2 pn2 pc2 ia2 iN2 ic2))]) ∧ Below w.heap.size w w' := by
  have hn1 := fun w => refname_any (Dat.mk k t n f s ro rf rl rc pa pn pc ia iN ic) w (by simp only; omega)
  have hn2 := fun w => refname_any (Dat.mk k2 t2 n2 f2 s2 ro2 rf2 rl2 rc2 pa2 pn2 pc2 ia2 iN2 ic2) w (by simp only; omega)
  have hz := name_size (Dat.mk k t n f s ro rf rl rc pa pn pc ia iN ic)
  have hz2 := name_size (Dat.mk k2 t2 n2 f2 s2 ro2 rf2 rl2 rc2 pa2 pn2 pc2 ia2 iN2 ic2)
  generalize nameOf (Dat.mk k t n f s ro rf rl rc pa pn pc ia iN ic) = nm at *
  generalize nameOf (Dat.mk k2 t2 n2 f2 s2 ro2 rf2 rl2 rc2 pa2 pn2 pc2 ia2 iN2 ic2) = nm2 at *
  have b1 : (9223372036854775807 < op.size + 1) = False := eq_false (by simp only at hz hz2; omega)
  have b2 : (9223372036854775807 < op.size + 1 + nm.size) = False := eq_false (by simp only at hz hz2; omega)
  have b3 : (9223372036854775807 < op.size + 1 + nm.size + 1) = False := eq_false (by simp only at hz hz2; omega)
  have b4 : (9223372036854775807 < op.size + 1 + nm.size + 1 + nm2.size) = False := eq_false (by simp only at hz hz2; omega)
  clear hz hz2 hs
  unfold Dat.val at *
  go_enter Tryz.func44, Tryz.ntmps44
  go_wp2_with fail
  obtain ⟨w1, RA, RB, RC, HB, e⟩ : ∃ w1, Row w1 w.heap.size 28 [.int .i64 k, .string t, .int .i64 n, .int .u64 f, .string s, .int .i64 ro, .int .i64 rf, .int .i64 rl, .int .i64 rc, .slice pa pn pc, .slice ia iN ic] ∧ Row w1 (w.heap.size + 1) 28 [.int .i64 k2, .string t2, .int .i64 n2, .int .u64 f2, .string s2, .int .i64 ro2, .int .i64 rf2, .int .i64 rl2, .int .i64 rc2, .slice pa2 pn2 pc2, .slice ia2 iN2 ic2] ∧ Row w1 (w.heap.size + 1 + 1) 35 [.string ⟨#[]⟩, .string ⟨#[]⟩] ∧ Below w.heap.size w w1 ∧ (((w.alloc (.cells [.int .i64 k, .string t, .int .i64 n, .int .u64 f, .string s, .int .i64 ro, .int .i64 rf, .int .i64 rl, .int .i64 rc, .slice pa pn pc, .slice ia iN ic].toArray 28)).alloc (.cells [.int .i64 k2, .string t2, .int .i64 n2, .int .u64 f2, .string s2, .int .i64 ro2, .int .i64 rf2, .int .i64 rl2, .int .i64 rc2, .slice pa2 pn2 pc2, .slice ia2 iN2 ic2].toArray 28)).alloc (.cells [.string ⟨#[]⟩, .string ⟨#[]⟩].toArray 35)) = w1 :=
    ⟨_, ((Row.made w 28 _).alloc _).alloc _, (row_atOne w _ 28 _).alloc _, row_at2 w _ _ 35 _, below3 w _ _ _, rfl⟩
  rw [e]
  clear e
  have HN1 := Lib.hid hn1
  have HN2 := Lib.hid hn2
  clear hn1 hn2
  obtain ⟨k1_0, k1_1, k1_2, k1_3, k1_4, k1_5, k1_6, k1_7, k1_8, k1_9, k1_10, k1f⟩ := row11 RA
  obtain ⟨k2_0, k2_1, k2_2, k2_3, k2_4, k2_5, k2_6, k2_7, k2_8, k2_9, k2_10, k2f⟩ := row11 RB
  replace RA := Lib.hid RA
  replace RB := Lib.hid RB
  replace RC := Lib.hid RC
  replace HB := Lib.hid HB
  have d1 : w.heap.size + 1 + 1 ≠ w.heap.size := by omega
  have d2 : w.heap.size + 1 + 1 ≠ w.heap.size + 1 := by omega
  have d3 : w.heap.size ≠ w.heap.size + 1 + 1 := by omega
  have d4 : w.heap.size + 1 ≠ w.heap.size + 1 + 1 := by omega
  go_region_held3 (fun w' => w'.cell? ⟨w.heap.size, 0, none⟩ = some (.int .i64 k) ∧ w'.cell? ⟨w.heap.size, 1, none⟩ = some (.string t) ∧ w'.cell? ⟨w.heap.size, 2, none⟩ = some (.int .i64 n) ∧ w'.cell? ⟨w.heap.size, 3, none⟩ = some (.int .u64 f) ∧ w'.cell? ⟨w.heap.size, 4, none⟩ = some (.string s) ∧ w'.cell? ⟨w.heap.size, 5, none⟩ = some (.int .i64 ro) ∧ w'.cell? ⟨w.heap.size, 6, none⟩ = some (.int .i64 rf) ∧ w'.cell? ⟨w.heap.size, 7, none⟩ = some (.int .i64 rl) ∧ w'.cell? ⟨w.heap.size, 8, none⟩ = some (.int .i64 rc) ∧ w'.cell? ⟨w.heap.size, 9, none⟩ = some (.slice pa pn pc) ∧ w'.cell? ⟨w.heap.size, 10, none⟩ = some (.slice ia iN ic) ∧ w'.cell? ⟨w.heap.size + 1, 0, none⟩ = some (.int .i64 k2) ∧ w'.cell? ⟨w.heap.size + 1, 1, none⟩ = some (.string t2) ∧ w'.cell? ⟨w.heap.size + 1, 2, none⟩ = some (.int .i64 n2) ∧ w'.cell? ⟨w.heap.size + 1, 3, none⟩ = some (.int .u64 f2) ∧ w'.cell? ⟨w.heap.size + 1, 4, none⟩ = some (.string s2) ∧ w'.cell? ⟨w.heap.size + 1, 5, none⟩ = some (.int .i64 ro2) ∧ w'.cell? ⟨w.heap.size + 1, 6, none⟩ = some (.int .i64 rf2) ∧ w'.cell? ⟨w.heap.size + 1, 7, none⟩ = some (.int .i64 rl2) ∧ w'.cell? ⟨w.heap.size + 1, 8, none⟩ = some (.int .i64 rc2) ∧ w'.cell? ⟨w.heap.size + 1, 9, none⟩ = some (.slice pa2 pn2 pc2) ∧ w'.cell? ⟨w.heap.size + 1, 10, none⟩ = some (.slice ia2 iN2 ic2)) (first | go_keep | exact ⟨k1_0, k1_1, k1_2, k1_3, k1_4, k1_5, k1_6, k1_7, k1_8, k1_9, k1_10, k2_0, k2_1, k2_2, k2_3, k2_4, k2_5, k2_6, k2_7, k2_8, k2_9, k2_10⟩) (first | (go_at_call 42; (with_reducible refine (HN1.out _).mono ?_); rintro en w2 ⟨rfl, hb⟩; have RAx := RA.out.drew.below hb RA.out.drew.lt; have RBx := RB.out.drew.below hb RB.out.drew.lt; have RCx := RC.out.drew.below hb RC.out.drew.lt; have HBx : Below w.heap.size w w2 := below_more (below_drew HB.out) hb HB.out.size; clear RA RB RC HB HN1 hb; have RA := Lib.hid RAx; have RB := Lib.hid RBx; have RC := Lib.hid RCx; have HB := Lib.hid HBx; clear RAx RBx RCx HBx; obtain ⟨k1_0, k1_1, k1_2, k1_3, k1_4, k1_5, k1_6, k1_7, k1_8, k1_9, k1_10, k1f⟩ := row11 RA.out; obtain ⟨k2_0, k2_1, k2_2, k2_3, k2_4, k2_5, k2_6, k2_7, k2_8, k2_9, k2_10, k2f⟩ := row11 RB.out) | (go_at_call 42; (with_reducible refine (HN2.out _).mono ?_); rintro en w2 ⟨rfl, hb⟩; have RAx := RA.out.drew.below hb RA.out.drew.lt; have RBx := RB.out.drew.below hb RB.out.drew.lt; have RCx := RC.out.drew.below hb RC.out.drew.lt; have HBx : Below w.heap.size w w2 := below_more (below_drew HB.out) hb HB.out.size; clear RA RB RC HB HN2 hb; have RA := Lib.hid RAx; have RB := Lib.hid RBx; have RC := Lib.hid RCx; have HB := Lib.hid HBx; clear RAx RBx RCx HBx; obtain ⟨k1_0, k1_1, k1_2, k1_3, k1_4, k1_5, k1_6, k1_7, k1_8, k1_9, k1_10, k1f⟩ := row11 RA.out; obtain ⟨k2_0, k2_1, k2_2, k2_3, k2_4, k2_5, k2_6, k2_7, k2_8, k2_9, k2_10, k2f⟩ := row11 RB.out) | (go_at_call 42; (with_reducible refine (HN1.out _).mono ?_); rintro en w3 ⟨rfl, hb⟩; have RAx := RA.out.below hb RA.out.lt; have RBx := RB.out.below hb RB.out.lt; have RCx := RC.out.below hb RC.out.lt; have HBx : Below w.heap.size w w3 := below_more (HB.out) hb HB.out.size; clear RA RB RC HB HN1 hb; have RA := Lib.hid RAx; have RB := Lib.hid RBx; have RC := Lib.hid RCx; have HB := Lib.hid HBx; clear RAx RBx RCx HBx; obtain ⟨k1_0, k1_1, k1_2, k1_3, k1_4, k1_5, k1_6, k1_7, k1_8, k1_9, k1_10, k1f⟩ := row11 RA.out; obtain ⟨k2_0, k2_1, k2_2, k2_3, k2_4, k2_5, k2_6, k2_7, k2_8, k2_9, k2_10, k2f⟩ := row11 RB.out) | (go_at_call 42; (with_reducible refine (HN2.out _).mono ?_); rintro en w3 ⟨rfl, hb⟩; have RAx := RA.out.below hb RA.out.lt; have RBx := RB.out.below hb RB.out.lt; have RCx := RC.out.below hb RC.out.lt; have HBx : Below w.heap.size w w3 := below_more (HB.out) hb HB.out.size; clear RA RB RC HB HN2 hb; have RA := Lib.hid RAx; have RB := Lib.hid RBx; have RC := Lib.hid RCx; have HB := Lib.hid HBx; clear RAx RBx RCx HBx; obtain ⟨k1_0, k1_1, k1_2, k1_3, k1_4, k1_5, k1_6, k1_7, k1_8, k1_9, k1_10, k1f⟩ := row11 RA.out; obtain ⟨k2_0, k2_1, k2_2, k2_3, k2_4, k2_5, k2_6, k2_7, k2_8, k2_9, k2_10, k2f⟩ := row11 RB.out) | (go_at_call 41; refine (reffault_any _ _ _).mono ?_; rintro en w4 ⟨rfl, hb⟩; have RAx := RA.out.below hb RA.out.lt; have RBx := RB.out.below hb RB.out.lt; have RCx := RC.out.below hb RC.out.lt; have HBx : Below w.heap.size w w4 := below_more HB.out hb HB.out.size; clear RA RB RC HB hb; have RC := Lib.hid RCx; have HB := Lib.hid HBx; obtain ⟨k1_0, k1_1, k1_2, k1_3, k1_4, k1_5, k1_6, k1_7, k1_8, k1_9, k1_10, k1f⟩ := row11 RAx; obtain ⟨k2_0, k2_1, k2_2, k2_3, k2_4, k2_5, k2_6, k2_7, k2_8, k2_9, k2_10, k2f⟩ := row11 RBx; have c0 := RC.out.cell 0; have c1 := RC.out.cell 1; have cf := RC.out.free; simp only [List.getElem?_cons_zero, List.getElem?_cons_succ] at c0 c1; clear RAx RBx RCx HBx))
  all_goals
    go_wp2
    exact bodyPost_ret (ret_f rfl _ _ (w.heap.size + 1 + 1) _ rfl (set2 RC.out) rfl) rfl ⟨rfl, (HB.out.setCell (by show w.heap.size ≤ w.heap.size + 1 + 1; omega) _).setCell (by show w.heap.size ≤ w.heap.size + 1 + 1; omega) _⟩
set_option maxRecDepth 200000 in
set_option maxHeartbeats 2000000 in
theorem wh_lt (be ab kn : Bool) (w : World) : Calls Tryz.prog 46 #[.string ⟨#[60]⟩, .bool be, .bool ab, .bool kn] w fun e w' => e = .returned (.tuple #[.bool (kn && be), .bool true]) ∧ w' = w := by
  cases be <;> cases ab <;> cases kn <;>
  · go_enter Tryz.func46, Tryz.ntmps46
    go_wp2
    go_returns
    exact ⟨rfl, rfl⟩
set_option maxRecDepth 200000 in
set_option maxHeartbeats 2000000 in
theorem wh_le (be ab kn : Bool) (w : World) : Calls Tryz.prog 46 #[.string ⟨#[60, 61]⟩, .bool be, .bool ab, .bool kn] w fun e w' => e = .returned (.tuple #[.bool (kn && !ab), .bool true]) ∧ w' = w := by
  cases be <;> cases ab <;> cases kn <;>
  · go_enter Tryz.func46, Tryz.ntmps46
    go_wp2
    go_returns
    exact ⟨rfl, rfl⟩
set_option maxRecDepth 200000 in
set_option maxHeartbeats 2000000 in
theorem wh_gt (be ab kn : Bool) (w : World) : Calls Tryz.prog 46 #[.string ⟨#[62]⟩, .bool be, .bool ab, .bool kn] w fun e w' => e = .returned (.tuple #[.bool (kn && ab), .bool true]) ∧ w' = w := by
  cases be <;> cases ab <;> cases kn <;>
  · go_enter Tryz.func46, Tryz.ntmps46
    go_wp2
    go_returns
    exact ⟨rfl, rfl⟩
set_option maxRecDepth 200000 in
set_option maxHeartbeats 2000000 in
theorem wh_ge (be ab kn : Bool) (w : World) : Calls Tryz.prog 46 #[.string ⟨#[62, 61]⟩, .bool be, .bool ab, .bool kn] w fun e w' => e = .returned (.tuple #[.bool (kn && !be), .bool true]) ∧ w' = w := by
  cases be <;> cases ab <;> cases kn <;>
  · go_enter Tryz.func46, Tryz.ntmps46
    go_wp2
    go_returns
    exact ⟨rfl, rfl⟩
set_option maxRecDepth 200000 in
set_option maxHeartbeats 2000000 in
theorem wh_no (op : ByteArray) (be ab kn : Bool) (w : World) (h1 : (op.toList == [60]) = false) (h2 : (op.toList == [60, 61]) = false) (h3 : (op.toList == [62]) = false) (h4 : (op.toList == [62, 61]) = false) :
    Calls Tryz.prog 46 #[.string op, .bool be, .bool ab, .bool kn] w fun e w' => e = .returned (.tuple #[.bool false, .bool false]) ∧ w' = w := by
  go_enter Tryz.func46, Tryz.ntmps46
  go_wp2
  go_returns
  exact ⟨rfl, rfl⟩
end Go.Proofs.YtehakhplglhkdaaGreatDoor
