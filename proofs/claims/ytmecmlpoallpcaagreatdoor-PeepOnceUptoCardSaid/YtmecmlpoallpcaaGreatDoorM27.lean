/- value.Equal of ints and flags: whether they are one. (Printed by gen_valb.py.) -/
import Derived.Test.YtmecmlpoallpcaaGreatDoorM11
import Derived.Test.YtmecmlpoallpcaaGreatDoorM25
import Derived.Deep.RegionHeld3
namespace Go.Proofs.YtmecmlpoallpcaaGreatDoor
set_option linter.unusedVariables false
open Go.RowKit

set_option maxRecDepth 200000 in
theorem vkind_of (k n f : Int) (t s : ByteArray) (w : World) : Calls Tryz.prog 187 #[(mk k t n f s).val] w fun e w' => e = .returned (.agg #[.int .i64 k, .string t]) ∧ Below w.heap.size w w' := by
  unfold mk Dat.val
  go_enter Tryz.func187, Tryz.ntmps187
  go_wp2
  go_returns
  exact ⟨rfl, by go_grown⟩
/-- A pair of a kind and a name held against another. -/
@[go_sem ↓] theorem eq245 (a a' : Int) (b b' : ByteArray) (w : World) :
    (Op.equalIn 10000 245 (.agg #[.int .i64 a, .string b]) (.agg #[.int .i64 a', .string b'])).run Tryz.prog w = .ok (a == a' && b.toList == b'.toList) w := by
  have hS : Tryz.prog.underlying 245 = some (.struct (Tryz.prog.fieldsOf 245)) := by kernel_rfl
  rw [show (10000 : Nat) = 9999 + 1 from rfl, run_equalIn_agg w 9999 245 _ _ hS Tryz.stoodInHeld245]
  simp only [Program.fieldsOf, Tryz.underlying245]
  simp [go_sem]
  by_cases h1 : a = a' <;> by_cases h2 : b.toList = b'.toList <;> simp [h1, h2]

set_option maxRecDepth 200000 in
set_option maxHeartbeats 8000000 in
theorem equal_ints (n m : Int) (w : World) : Calls Tryz.prog 155 #[(intD n).val, (intD m).val] w fun e w' => e = .returned (.tuple #[.bool (n == m), .string ⟨#[]⟩]) ∧ Below w.heap.size w w' := by
  have hn1 := vkind_of 2 n 0 ⟨#[105, 110, 116]⟩ ⟨#[]⟩
  have hn2 := vkind_of 2 m 0 ⟨#[105, 110, 116]⟩ ⟨#[]⟩
  simp only [intD, mk, Dat.val] at *
  cases hnm : (n == m)
  all_goals
    go_enter Tryz.func155, Tryz.ntmps155
    go_wp2_with fail
    obtain ⟨w1, RA, RB, HB, e⟩ : ∃ w1, Row w1 w.heap.size 131 [.int .i64 2, .string ⟨#[105, 110, 116]⟩, .int .i64 n, .int .u64 0, .string ⟨#[]⟩, .int .i64 0, .int .i64 0, .int .i64 0, .int .i64 0, .slice none 0 0, .slice none 0 0] ∧ Row w1 (w.heap.size + 1) 131 [.int .i64 2, .string ⟨#[105, 110, 116]⟩, .int .i64 m, .int .u64 0, .string ⟨#[]⟩, .int .i64 0, .int .i64 0, .int .i64 0, .int .i64 0, .slice none 0 0, .slice none 0 0] ∧ Below w.heap.size w w1 ∧ ((w.alloc (.cells #[.int .i64 2, .string ⟨#[105, 110, 116]⟩, .int .i64 n, .int .u64 0, .string ⟨#[]⟩, .int .i64 0, .int .i64 0, .int .i64 0, .int .i64 0, .slice none 0 0, .slice none 0 0] 131)).alloc (.cells #[.int .i64 2, .string ⟨#[105, 110, 116]⟩, .int .i64 m, .int .u64 0, .string ⟨#[]⟩, .int .i64 0, .int .i64 0, .int .i64 0, .int .i64 0, .slice none 0 0, .slice none 0 0] 131)) = w1 :=
      ⟨_, (Row.made w 131 _).alloc _, row_atOne w _ 131 _, below2 w _ _, rfl⟩
    rw [e]
    clear e
    have HN1 := Lib.hid hn1
    have HN2 := Lib.hid hn2
    clear hn1 hn2
    obtain ⟨k1_0, k1_1, k1_2, k1_3, k1_4, k1_5, k1_6, k1_7, k1_8, k1_9, k1_10, k1f⟩ := row11 RA
    obtain ⟨k2_0, k2_1, k2_2, k2_3, k2_4, k2_5, k2_6, k2_7, k2_8, k2_9, k2_10, k2f⟩ := row11 RB
    replace RA := Lib.hid RA
    replace RB := Lib.hid RB
    replace HB := Lib.hid HB
    go_region_held3 (fun w' => w'.cell? ⟨w.heap.size, 0, none⟩ = some (.int .i64 2) ∧ w'.cell? ⟨w.heap.size, 1, none⟩ = some (.string ⟨#[105, 110, 116]⟩) ∧ w'.cell? ⟨w.heap.size, 2, none⟩ = some (.int .i64 n) ∧ w'.cell? ⟨w.heap.size, 3, none⟩ = some (.int .u64 0) ∧ w'.cell? ⟨w.heap.size, 4, none⟩ = some (.string ⟨#[]⟩) ∧ w'.cell? ⟨w.heap.size, 5, none⟩ = some (.int .i64 0) ∧ w'.cell? ⟨w.heap.size, 6, none⟩ = some (.int .i64 0) ∧ w'.cell? ⟨w.heap.size, 7, none⟩ = some (.int .i64 0) ∧ w'.cell? ⟨w.heap.size, 8, none⟩ = some (.int .i64 0) ∧ w'.cell? ⟨w.heap.size, 9, none⟩ = some (.slice none 0 0) ∧ w'.cell? ⟨w.heap.size, 10, none⟩ = some (.slice none 0 0) ∧ w'.cell? ⟨w.heap.size + 1, 0, none⟩ = some (.int .i64 2) ∧ w'.cell? ⟨w.heap.size + 1, 1, none⟩ = some (.string ⟨#[105, 110, 116]⟩) ∧ w'.cell? ⟨w.heap.size + 1, 2, none⟩ = some (.int .i64 m) ∧ w'.cell? ⟨w.heap.size + 1, 3, none⟩ = some (.int .u64 0) ∧ w'.cell? ⟨w.heap.size + 1, 4, none⟩ = some (.string ⟨#[]⟩) ∧ w'.cell? ⟨w.heap.size + 1, 5, none⟩ = some (.int .i64 0) ∧ w'.cell? ⟨w.heap.size + 1, 6, none⟩ = some (.int .i64 0) ∧ w'.cell? ⟨w.heap.size + 1, 7, none⟩ = some (.int .i64 0) ∧ w'.cell? ⟨w.heap.size + 1, 8, none⟩ = some (.int .i64 0) ∧ w'.cell? ⟨w.heap.size + 1, 9, none⟩ = some (.slice none 0 0) ∧ w'.cell? ⟨w.heap.size + 1, 10, none⟩ = some (.slice none 0 0)) (first | go_keep | exact ⟨k1_0, k1_1, k1_2, k1_3, k1_4, k1_5, k1_6, k1_7, k1_8, k1_9, k1_10, k2_0, k2_1, k2_2, k2_3, k2_4, k2_5, k2_6, k2_7, k2_8, k2_9, k2_10⟩) (first | (go_at_call 187; (with_reducible refine (HN1.out _).mono ?_); rintro en w2 ⟨rfl, hb⟩; have RAx := RA.out.drew.below hb RA.out.drew.lt; have RBx := RB.out.drew.below hb RB.out.drew.lt; have HBx : Below w.heap.size w w2 := below_more (below_drew HB.out) hb HB.out.size; clear RA RB HB HN1 hb; have RA := Lib.hid RAx; have RB := Lib.hid RBx; have HB := Lib.hid HBx; clear RAx RBx HBx; obtain ⟨k1_0, k1_1, k1_2, k1_3, k1_4, k1_5, k1_6, k1_7, k1_8, k1_9, k1_10, k1f⟩ := row11 RA.out; obtain ⟨k2_0, k2_1, k2_2, k2_3, k2_4, k2_5, k2_6, k2_7, k2_8, k2_9, k2_10, k2f⟩ := row11 RB.out) | (go_at_call 187; (with_reducible refine (HN2.out _).mono ?_); rintro en w2 ⟨rfl, hb⟩; have RAx := RA.out.below hb RA.out.lt; have RBx := RB.out.below hb RB.out.lt; have HBx : Below w.heap.size w w2 := below_more HB.out hb HB.out.size; clear RA RB HB HN2 hb; have RA := Lib.hid RAx; have RB := Lib.hid RBx; have HB := Lib.hid HBx; clear RAx RBx HBx; obtain ⟨k1_0, k1_1, k1_2, k1_3, k1_4, k1_5, k1_6, k1_7, k1_8, k1_9, k1_10, k1f⟩ := row11 RA.out; obtain ⟨k2_0, k2_1, k2_2, k2_3, k2_4, k2_5, k2_6, k2_7, k2_8, k2_9, k2_10, k2f⟩ := row11 RB.out))
    all_goals
      go_wp2
      go_returns
      exact ⟨rfl, HB.out⟩

set_option maxRecDepth 200000 in
set_option maxHeartbeats 8000000 in
theorem equal_flags (n m : Int) (w : World) : Calls Tryz.prog 155 #[(flagD n).val, (flagD m).val] w fun e w' => e = .returned (.tuple #[.bool (n == m), .string ⟨#[]⟩]) ∧ Below w.heap.size w w' := by
  have hn1 := vkind_of 1 n 0 ⟨#[98, 111, 111, 108]⟩ ⟨#[]⟩
  have hn2 := vkind_of 1 m 0 ⟨#[98, 111, 111, 108]⟩ ⟨#[]⟩
  simp only [flagD, mk, Dat.val, sBool] at *
  cases hnm : (n == m)
  all_goals
    go_enter Tryz.func155, Tryz.ntmps155
    go_wp2_with fail
    obtain ⟨w1, RA, RB, HB, e⟩ : ∃ w1, Row w1 w.heap.size 131 [.int .i64 1, .string ⟨#[98, 111, 111, 108]⟩, .int .i64 n, .int .u64 0, .string ⟨#[]⟩, .int .i64 0, .int .i64 0, .int .i64 0, .int .i64 0, .slice none 0 0, .slice none 0 0] ∧ Row w1 (w.heap.size + 1) 131 [.int .i64 1, .string ⟨#[98, 111, 111, 108]⟩, .int .i64 m, .int .u64 0, .string ⟨#[]⟩, .int .i64 0, .int .i64 0, .int .i64 0, .int .i64 0, .slice none 0 0, .slice none 0 0] ∧ Below w.heap.size w w1 ∧ ((w.alloc (.cells #[.int .i64 1, .string ⟨#[98, 111, 111, 108]⟩, .int .i64 n, .int .u64 0, .string ⟨#[]⟩, .int .i64 0, .int .i64 0, .int .i64 0, .int .i64 0, .slice none 0 0, .slice none 0 0] 131)).alloc (.cells #[.int .i64 1, .string ⟨#[98, 111, 111, 108]⟩, .int .i64 m, .int .u64 0, .string ⟨#[]⟩, .int .i64 0, .int .i64 0, .int .i64 0, .int .i64 0, .slice none 0 0, .slice none 0 0] 131)) = w1 :=
      ⟨_, (Row.made w 131 _).alloc _, row_atOne w _ 131 _, below2 w _ _, rfl⟩
    rw [e]
    clear e
    have HN1 := Lib.hid hn1
    have HN2 := Lib.hid hn2
    clear hn1 hn2
    obtain ⟨k1_0, k1_1, k1_2, k1_3, k1_4, k1_5, k1_6, k1_7, k1_8, k1_9, k1_10, k1f⟩ := row11 RA
    obtain ⟨k2_0, k2_1, k2_2, k2_3, k2_4, k2_5, k2_6, k2_7, k2_8, k2_9, k2_10, k2f⟩ := row11 RB
    replace RA := Lib.hid RA
    replace RB := Lib.hid RB
    replace HB := Lib.hid HB
    go_region_held3 (fun w' => w'.cell? ⟨w.heap.size, 0, none⟩ = some (.int .i64 1) ∧ w'.cell? ⟨w.heap.size, 1, none⟩ = some (.string ⟨#[98, 111, 111, 108]⟩) ∧ w'.cell? ⟨w.heap.size, 2, none⟩ = some (.int .i64 n) ∧ w'.cell? ⟨w.heap.size, 3, none⟩ = some (.int .u64 0) ∧ w'.cell? ⟨w.heap.size, 4, none⟩ = some (.string ⟨#[]⟩) ∧ w'.cell? ⟨w.heap.size, 5, none⟩ = some (.int .i64 0) ∧ w'.cell? ⟨w.heap.size, 6, none⟩ = some (.int .i64 0) ∧ w'.cell? ⟨w.heap.size, 7, none⟩ = some (.int .i64 0) ∧ w'.cell? ⟨w.heap.size, 8, none⟩ = some (.int .i64 0) ∧ w'.cell? ⟨w.heap.size, 9, none⟩ = some (.slice none 0 0) ∧ w'.cell? ⟨w.heap.size, 10, none⟩ = some (.slice none 0 0) ∧ w'.cell? ⟨w.heap.size + 1, 0, none⟩ = some (.int .i64 1) ∧ w'.cell? ⟨w.heap.size + 1, 1, none⟩ = some (.string ⟨#[98, 111, 111, 108]⟩) ∧ w'.cell? ⟨w.heap.size + 1, 2, none⟩ = some (.int .i64 m) ∧ w'.cell? ⟨w.heap.size + 1, 3, none⟩ = some (.int .u64 0) ∧ w'.cell? ⟨w.heap.size + 1, 4, none⟩ = some (.string ⟨#[]⟩) ∧ w'.cell? ⟨w.heap.size + 1, 5, none⟩ = some (.int .i64 0) ∧ w'.cell? ⟨w.heap.size + 1, 6, none⟩ = some (.int .i64 0) ∧ w'.cell? ⟨w.heap.size + 1, 7, none⟩ = some (.int .i64 0) ∧ w'.cell? ⟨w.heap.size + 1, 8, none⟩ = some (.int .i64 0) ∧ w'.cell? ⟨w.heap.size + 1, 9, none⟩ = some (.slice none 0 0) ∧ w'.cell? ⟨w.heap.size + 1, 10, none⟩ = some (.slice none 0 0)) (first | go_keep | exact ⟨k1_0, k1_1, k1_2, k1_3, k1_4, k1_5, k1_6, k1_7, k1_8, k1_9, k1_10, k2_0, k2_1, k2_2, k2_3, k2_4, k2_5, k2_6, k2_7, k2_8, k2_9, k2_10⟩) (first | (go_at_call 187; (with_reducible refine (HN1.out _).mono ?_); rintro en w2 ⟨rfl, hb⟩; have RAx := RA.out.drew.below hb RA.out.drew.lt; have RBx := RB.out.drew.below hb RB.out.drew.lt; have HBx : Below w.heap.size w w2 := below_more (below_drew HB.out) hb HB.out.size; clear RA RB HB HN1 hb; have RA := Lib.hid RAx; have RB := Lib.hid RBx; have HB := Lib.hid HBx; clear RAx RBx HBx; obtain ⟨k1_0, k1_1, k1_2, k1_3, k1_4, k1_5, k1_6, k1_7, k1_8, k1_9, k1_10, k1f⟩ := row11 RA.out; obtain ⟨k2_0, k2_1, k2_2, k2_3, k2_4, k2_5, k2_6, k2_7, k2_8, k2_9, k2_10, k2f⟩ := row11 RB.out) | (go_at_call 187; (with_reducible refine (HN2.out _).mono ?_); rintro en w2 ⟨rfl, hb⟩; have RAx := RA.out.below hb RA.out.lt; have RBx := RB.out.below hb RB.out.lt; have HBx : Below w.heap.size w w2 := below_more HB.out hb HB.out.size; clear RA RB HB HN2 hb; have RA := Lib.hid RAx; have RB := Lib.hid RBx; have HB := Lib.hid HBx; clear RAx RBx HBx; obtain ⟨k1_0, k1_1, k1_2, k1_3, k1_4, k1_5, k1_6, k1_7, k1_8, k1_9, k1_10, k1f⟩ := row11 RA.out; obtain ⟨k2_0, k2_1, k2_2, k2_3, k2_4, k2_5, k2_6, k2_7, k2_8, k2_9, k2_10, k2f⟩ := row11 RB.out))
    all_goals
      go_wp2
      go_returns
      exact ⟨rfl, HB.out⟩

set_option maxRecDepth 200000 in
set_option maxHeartbeats 8000000 in
theorem equal_mixed (n m : Int) (w : World) : Calls Tryz.prog 155 #[(intD n).val, (flagD m).val] w fun e w' => e = .returned (.tuple #[.bool (false), .string ⟨#[]⟩]) ∧ Below w.heap.size w w' := by
  have hn1 := vkind_of 2 n 0 ⟨#[105, 110, 116]⟩ ⟨#[]⟩
  have hn2 := vkind_of 1 m 0 ⟨#[98, 111, 111, 108]⟩ ⟨#[]⟩
  simp only [flagD, intD, mk, Dat.val, sBool] at *
  go_enter Tryz.func155, Tryz.ntmps155
  go_wp2_with fail
  obtain ⟨w1, RA, RB, HB, e⟩ : ∃ w1, Row w1 w.heap.size 131 [.int .i64 2, .string ⟨#[105, 110, 116]⟩, .int .i64 n, .int .u64 0, .string ⟨#[]⟩, .int .i64 0, .int .i64 0, .int .i64 0, .int .i64 0, .slice none 0 0, .slice none 0 0] ∧ Row w1 (w.heap.size + 1) 131 [.int .i64 1, .string ⟨#[98, 111, 111, 108]⟩, .int .i64 m, .int .u64 0, .string ⟨#[]⟩, .int .i64 0, .int .i64 0, .int .i64 0, .int .i64 0, .slice none 0 0, .slice none 0 0] ∧ Below w.heap.size w w1 ∧ ((w.alloc (.cells #[.int .i64 2, .string ⟨#[105, 110, 116]⟩, .int .i64 n, .int .u64 0, .string ⟨#[]⟩, .int .i64 0, .int .i64 0, .int .i64 0, .int .i64 0, .slice none 0 0, .slice none 0 0] 131)).alloc (.cells #[.int .i64 1, .string ⟨#[98, 111, 111, 108]⟩, .int .i64 m, .int .u64 0, .string ⟨#[]⟩, .int .i64 0, .int .i64 0, .int .i64 0, .int .i64 0, .slice none 0 0, .slice none 0 0] 131)) = w1 :=
    ⟨_, (Row.made w 131 _).alloc _, row_atOne w _ 131 _, below2 w _ _, rfl⟩
  rw [e]
  clear e
  have HN1 := Lib.hid hn1
  have HN2 := Lib.hid hn2
  clear hn1 hn2
  obtain ⟨k1_0, k1_1, k1_2, k1_3, k1_4, k1_5, k1_6, k1_7, k1_8, k1_9, k1_10, k1f⟩ := row11 RA
  obtain ⟨k2_0, k2_1, k2_2, k2_3, k2_4, k2_5, k2_6, k2_7, k2_8, k2_9, k2_10, k2f⟩ := row11 RB
  replace RA := Lib.hid RA
  replace RB := Lib.hid RB
  replace HB := Lib.hid HB
  go_region_held3 (fun w' => w'.cell? ⟨w.heap.size, 0, none⟩ = some (.int .i64 2) ∧ w'.cell? ⟨w.heap.size, 1, none⟩ = some (.string ⟨#[105, 110, 116]⟩) ∧ w'.cell? ⟨w.heap.size, 2, none⟩ = some (.int .i64 n) ∧ w'.cell? ⟨w.heap.size, 3, none⟩ = some (.int .u64 0) ∧ w'.cell? ⟨w.heap.size, 4, none⟩ = some (.string ⟨#[]⟩) ∧ w'.cell? ⟨w.heap.size, 5, none⟩ = some (.int .i64 0) ∧ w'.cell? ⟨w.heap.size, 6, none⟩ = some (.int .i64 0) ∧ w'.cell? ⟨w.heap.size, 7, none⟩ = some (.int .i64 0) ∧ w'.cell? ⟨w.heap.size, 8, none⟩ = some (.int .i64 0) ∧ w'.cell? ⟨w.heap.size, 9, none⟩ = some (.slice none 0 0) ∧ w'.cell? ⟨w.heap.size, 10, none⟩ = some (.slice none 0 0) ∧ w'.cell? ⟨w.heap.size + 1, 0, none⟩ = some (.int .i64 1) ∧ w'.cell? ⟨w.heap.size + 1, 1, none⟩ = some (.string ⟨#[98, 111, 111, 108]⟩) ∧ w'.cell? ⟨w.heap.size + 1, 2, none⟩ = some (.int .i64 m) ∧ w'.cell? ⟨w.heap.size + 1, 3, none⟩ = some (.int .u64 0) ∧ w'.cell? ⟨w.heap.size + 1, 4, none⟩ = some (.string ⟨#[]⟩) ∧ w'.cell? ⟨w.heap.size + 1, 5, none⟩ = some (.int .i64 0) ∧ w'.cell? ⟨w.heap.size + 1, 6, none⟩ = some (.int .i64 0) ∧ w'.cell? ⟨w.heap.size + 1, 7, none⟩ = some (.int .i64 0) ∧ w'.cell? ⟨w.heap.size + 1, 8, none⟩ = some (.int .i64 0) ∧ w'.cell? ⟨w.heap.size + 1, 9, none⟩ = some (.slice none 0 0) ∧ w'.cell? ⟨w.heap.size + 1, 10, none⟩ = some (.slice none 0 0)) (first | go_keep | exact ⟨k1_0, k1_1, k1_2, k1_3, k1_4, k1_5, k1_6, k1_7, k1_8, k1_9, k1_10, k2_0, k2_1, k2_2, k2_3, k2_4, k2_5, k2_6, k2_7, k2_8, k2_9, k2_10⟩) (first | (go_at_call 187; (with_reducible refine (HN1.out _).mono ?_); rintro en w2 ⟨rfl, hb⟩; have RAx := RA.out.drew.below hb RA.out.drew.lt; have RBx := RB.out.drew.below hb RB.out.drew.lt; have HBx : Below w.heap.size w w2 := below_more (below_drew HB.out) hb HB.out.size; clear RA RB HB HN1 hb; have RA := Lib.hid RAx; have RB := Lib.hid RBx; have HB := Lib.hid HBx; clear RAx RBx HBx; obtain ⟨k1_0, k1_1, k1_2, k1_3, k1_4, k1_5, k1_6, k1_7, k1_8, k1_9, k1_10, k1f⟩ := row11 RA.out; obtain ⟨k2_0, k2_1, k2_2, k2_3, k2_4, k2_5, k2_6, k2_7, k2_8, k2_9, k2_10, k2f⟩ := row11 RB.out) | (go_at_call 187; (with_reducible refine (HN2.out _).mono ?_); rintro en w2 ⟨rfl, hb⟩; have RAx := RA.out.below hb RA.out.lt; have RBx := RB.out.below hb RB.out.lt; have HBx : Below w.heap.size w w2 := below_more HB.out hb HB.out.size; clear RA RB HB HN2 hb; have RA := Lib.hid RAx; have RB := Lib.hid RBx; have HB := Lib.hid HBx; clear RAx RBx HBx; obtain ⟨k1_0, k1_1, k1_2, k1_3, k1_4, k1_5, k1_6, k1_7, k1_8, k1_9, k1_10, k1f⟩ := row11 RA.out; obtain ⟨k2_0, k2_1, k2_2, k2_3, k2_4, k2_5, k2_6, k2_7, k2_8, k2_9, k2_10, k2f⟩ := row11 RB.out))
  all_goals
    go_wp2
    go_returns
    exact ⟨rfl, HB.out⟩

set_option maxRecDepth 200000 in
set_option maxHeartbeats 8000000 in
theorem equal_mixed2 (n m : Int) (w : World) : Calls Tryz.prog 155 #[(flagD n).val, (intD m).val] w fun e w' => e = .returned (.tuple #[.bool (false), .string ⟨#[]⟩]) ∧ Below w.heap.size w w' := by
  have hn1 := vkind_of 1 n 0 ⟨#[98, 111, 111, 108]⟩ ⟨#[]⟩
  have hn2 := vkind_of 2 m 0 ⟨#[105, 110, 116]⟩ ⟨#[]⟩
  simp only [flagD, intD, mk, Dat.val, sBool] at *
  go_enter Tryz.func155, Tryz.ntmps155
  go_wp2_with fail
  obtain ⟨w1, RA, RB, HB, e⟩ : ∃ w1, Row w1 w.heap.size 131 [.int .i64 1, .string ⟨#[98, 111, 111, 108]⟩, .int .i64 n, .int .u64 0, .string ⟨#[]⟩, .int .i64 0, .int .i64 0, .int .i64 0, .int .i64 0, .slice none 0 0, .slice none 0 0] ∧ Row w1 (w.heap.size + 1) 131 [.int .i64 2, .string ⟨#[105, 110, 116]⟩, .int .i64 m, .int .u64 0, .string ⟨#[]⟩, .int .i64 0, .int .i64 0, .int .i64 0, .int .i64 0, .slice none 0 0, .slice none 0 0] ∧ Below w.heap.size w w1 ∧ ((w.alloc (.cells #[.int .i64 1, .string ⟨#[98, 111, 111, 108]⟩, .int .i64 n, .int .u64 0, .string ⟨#[]⟩, .int .i64 0, .int .i64 0, .int .i64 0, .int .i64 0, .slice none 0 0, .slice none 0 0] 131)).alloc (.cells #[.int .i64 2, .string ⟨#[105, 110, 116]⟩, .int .i64 m, .int .u64 0, .string ⟨#[]⟩, .int .i64 0, .int .i64 0, .int .i64 0, .int .i64 0, .slice none 0 0, .slice none 0 0] 131)) = w1 :=
    ⟨_, (Row.made w 131 _).alloc _, row_atOne w _ 131 _, below2 w _ _, rfl⟩
  rw [e]
  clear e
  have HN1 := Lib.hid hn1
  have HN2 := Lib.hid hn2
  clear hn1 hn2
  obtain ⟨k1_0, k1_1, k1_2, k1_3, k1_4, k1_5, k1_6, k1_7, k1_8, k1_9, k1_10, k1f⟩ := row11 RA
  obtain ⟨k2_0, k2_1, k2_2, k2_3, k2_4, k2_5, k2_6, k2_7, k2_8, k2_9, k2_10, k2f⟩ := row11 RB
  replace RA := Lib.hid RA
  replace RB := Lib.hid RB
  replace HB := Lib.hid HB
  go_region_held3 (fun w' => w'.cell? ⟨w.heap.size, 0, none⟩ = some (.int .i64 1) ∧ w'.cell? ⟨w.heap.size, 1, none⟩ = some (.string ⟨#[98, 111, 111, 108]⟩) ∧ w'.cell? ⟨w.heap.size, 2, none⟩ = some (.int .i64 n) ∧ w'.cell? ⟨w.heap.size, 3, none⟩ = some (.int .u64 0) ∧ w'.cell? ⟨w.heap.size, 4, none⟩ = some (.string ⟨#[]⟩) ∧ w'.cell? ⟨w.heap.size, 5, none⟩ = some (.int .i64 0) ∧ w'.cell? ⟨w.heap.size, 6, none⟩ = some (.int .i64 0) ∧ w'.cell? ⟨w.heap.size, 7, none⟩ = some (.int .i64 0) ∧ w'.cell? ⟨w.heap.size, 8, none⟩ = some (.int .i64 0) ∧ w'.cell? ⟨w.heap.size, 9, none⟩ = some (.slice none 0 0) ∧ w'.cell? ⟨w.heap.size, 10, none⟩ = some (.slice none 0 0) ∧ w'.cell? ⟨w.heap.size + 1, 0, none⟩ = some (.int .i64 2) ∧ w'.cell? ⟨w.heap.size + 1, 1, none⟩ = some (.string ⟨#[105, 110, 116]⟩) ∧ w'.cell? ⟨w.heap.size + 1, 2, none⟩ = some (.int .i64 m) ∧ w'.cell? ⟨w.heap.size + 1, 3, none⟩ = some (.int .u64 0) ∧ w'.cell? ⟨w.heap.size + 1, 4, none⟩ = some (.string ⟨#[]⟩) ∧ w'.cell? ⟨w.heap.size + 1, 5, none⟩ = some (.int .i64 0) ∧ w'.cell? ⟨w.heap.size + 1, 6, none⟩ = some (.int .i64 0) ∧ w'.cell? ⟨w.heap.size + 1, 7, none⟩ = some (.int .i64 0) ∧ w'.cell? ⟨w.heap.size + 1, 8, none⟩ = some (.int .i64 0) ∧ w'.cell? ⟨w.heap.size + 1, 9, none⟩ = some (.slice none 0 0) ∧ w'.cell? ⟨w.heap.size + 1, 10, none⟩ = some (.slice none 0 0)) (first | go_keep | exact ⟨k1_0, k1_1, k1_2, k1_3, k1_4, k1_5, k1_6, k1_7, k1_8, k1_9, k1_10, k2_0, k2_1, k2_2, k2_3, k2_4, k2_5, k2_6, k2_7, k2_8, k2_9, k2_10⟩) (first | (go_at_call 187; (with_reducible refine (HN1.out _).mono ?_); rintro en w2 ⟨rfl, hb⟩; have RAx := RA.out.drew.below hb RA.out.drew.lt; have RBx := RB.out.drew.below hb RB.out.drew.lt; have HBx : Below w.heap.size w w2 := below_more (below_drew HB.out) hb HB.out.size; clear RA RB HB HN1 hb; have RA := Lib.hid RAx; have RB := Lib.hid RBx; have HB := Lib.hid HBx; clear RAx RBx HBx; obtain ⟨k1_0, k1_1, k1_2, k1_3, k1_4, k1_5, k1_6, k1_7, k1_8, k1_9, k1_10, k1f⟩ := row11 RA.out; obtain ⟨k2_0, k2_1, k2_2, k2_3, k2_4, k2_5, k2_6, k2_7, k2_8, k2_9, k2_10, k2f⟩ := row11 RB.out) | (go_at_call 187; (with_reducible refine (HN2.out _).mono ?_); rintro en w2 ⟨rfl, hb⟩; have RAx := RA.out.below hb RA.out.lt; have RBx := RB.out.below hb RB.out.lt; have HBx : Below w.heap.size w w2 := below_more HB.out hb HB.out.size; clear RA RB HB HN2 hb; have RA := Lib.hid RAx; have RB := Lib.hid RBx; have HB := Lib.hid HBx; clear RAx RBx HBx; obtain ⟨k1_0, k1_1, k1_2, k1_3, k1_4, k1_5, k1_6, k1_7, k1_8, k1_9, k1_10, k1f⟩ := row11 RA.out; obtain ⟨k2_0, k2_1, k2_2, k2_3, k2_4, k2_5, k2_6, k2_7, k2_8, k2_9, k2_10, k2f⟩ := row11 RB.out))
  all_goals
    go_wp2
    go_returns
    exact ⟨rfl, HB.out⟩

set_option maxRecDepth 200000 in
set_option maxHeartbeats 4000000 in
theorem val_equal (d e : Dat) (r : Bool) (hd : ∀ (w : World), OwnG w → Calls Tryz.prog 153 #[d.val] w fun e w' => e = .returned (.bool true) ∧ Below w.heap.size w w') (he : ∀ (w : World), OwnG w → Calls Tryz.prog 153 #[e.val] w fun e w' => e = .returned (.bool true) ∧ Below w.heap.size w w')
    (hq : ∀ (w : World), Calls Tryz.prog 155 #[d.val, e.val] w fun e w' => e = .returned (.tuple #[.bool r, .string ⟨#[]⟩]) ∧ Below w.heap.size w w') (w : World) (G : OwnG w) :
    Calls Tryz.prog 120 #[d.val, e.val] w fun e w' => e = .returned (.tuple #[.bool r, .nilIface]) ∧ Below w.heap.size w w' := by
  have HD := Lib.hid hd
  have HE := Lib.hid he
  have HQ := Lib.hid hq
  have HG := Lib.hid G
  clear hd he hq G
  obtain ⟨k, t, n, f, s, ro, rf, rl, rc, pa, pn, pc, ia, iN, ic⟩ := d
  obtain ⟨k2, t2, n2, f2, s2, ro2, rf2, rl2, rc2, pa2, pn2, pc2, ia2, iN2, ic2⟩ := e
  simp only [Dat.val] at *
  go_enter Tryz.func120, Tryz.ntmps120
  go_wp2_with (first
    | (go_at_call 153; (with_reducible refine (HD.out _ ?hg).mono ?_)
       case hg => exact HG.out.below (below2 w _ _)
       rintro en w2 ⟨rfl, hb⟩
       have RA := Lib.hid (((Row.made w 131 [.int .i64 k, .string t, .int .i64 n, .int .u64 f, .string s, .int .i64 ro, .int .i64 rf, .int .i64 rl, .int .i64 rc, .slice pa pn pc, .slice ia iN ic]).alloc _).below hb ((Row.made w 131 _).alloc _).lt)
       have RB := Lib.hid ((row_atOne w _ 131 [.int .i64 k2, .string t2, .int .i64 n2, .int .u64 f2, .string s2, .int .i64 ro2, .int .i64 rf2, .int .i64 rl2, .int .i64 rc2, .slice pa2 pn2 pc2, .slice ia2 iN2 ic2]).below hb (row_atOne w _ 131 _).lt)
       have B2 := Lib.hid (below_more (below2 w _ _) hb (below2 w _ _).size)
       have hz2 := RB.out.lt
       obtain ⟨a0, a1, a2, a3, a4, a5, a6, a7, a8, a9, a10, _⟩ := row11 RA.out
       obtain ⟨b0, b1, b2, b3, b4, b5, b6, b7, b8, b9, b10, _⟩ := row11 RB.out
       clear hb HD)
    | (go_at_call 153; (with_reducible refine (HE.out _ ?hg).mono ?_)
       case hg => exact HG.out.below B2.out
       rintro en w3 ⟨rfl, hb⟩
       have RAx := RA.out.below hb RA.out.lt
       have RBx := RB.out.below hb RB.out.lt
       have B3 := Lib.hid (below_more B2.out hb B2.out.size)
       have hz3 := RBx.lt
       clear a0 a1 a2 a3 a4 a5 a6 a7 a8 a9 a10 b0 b1 b2 b3 b4 b5 b6 b7 b8 b9 b10
       obtain ⟨a0, a1, a2, a3, a4, a5, a6, a7, a8, a9, a10, _⟩ := row11 RAx
       obtain ⟨b0, b1, b2, b3, b4, b5, b6, b7, b8, b9, b10, _⟩ := row11 RBx
       clear hb RA RB HE)
    | (go_at_call 155; refine (HQ.out _).mono ?_; rintro en w4 ⟨rfl, hb⟩; have B4 := Lib.hid (below_more B3.out hb B3.out.size); clear hb))
  go_returns
  exact ⟨rfl, B4.out⟩
end Go.Proofs.YtmecmlpoallpcaaGreatDoor
