/- number.binary of two floats, by the contract of number.floats. -/
import Derived.Test.YtehakhplglhkdaaGreatDoorCmpFloat
import Derived.Test.YtehakhplglhkdaaGreatDoorDivz
import Derived.Deep.RegionHeld3
import Derived.Deep.RegionLaw
namespace Go.Proofs.YtehakhplglhkdaaGreatDoor
set_option linter.unusedVariables false
open Go.RowKit

theorem row_at1' (w : World) (A : Obj) (t : TypeId) (cs : List Value) : Row ((w.alloc A).alloc (.cells cs.toArray t)) (w.heap.size + 1) t cs := by
  have := Row.made (w.alloc A) t cs
  simpa using this
theorem set11 {w : World} {g : Nat} {o0 o1 o2 o3 o4 o5 o6 o7 o8 o9 o10 v0 v1 v2 v3 v4 v5 v6 v7 v8 v9 v10 : Value} (h : Row w g 28 [o0, o1, o2, o3, o4, o5, o6, o7, o8, o9, o10]) :
    Row (((((((((((w.setCell ⟨g, 0, none⟩ v0).setCell ⟨g, 1, none⟩ v1).setCell ⟨g, 2, none⟩ v2).setCell ⟨g, 3, none⟩ v3).setCell ⟨g, 4, none⟩ v4).setCell ⟨g, 5, none⟩ v5).setCell ⟨g, 6, none⟩ v6).setCell ⟨g, 7, none⟩ v7).setCell ⟨g, 8, none⟩ v8).setCell ⟨g, 9, none⟩ v9).setCell ⟨g, 10, none⟩ v10) g 28 [v0, v1, v2, v3, v4, v5, v6, v7, v8, v9, v10] := by
  have := ((((((((((h.set 0 v0).set 1 v1).set 2 v2).set 3 v3).set 4 v4).set 5 v5).set 6 v6).set 7 v7).set 8 v8).set 9 v9).set 10 v10
  simpa using this
theorem far11 {w : World} {g k : Nat} {t : TypeId} {cs : List Value} {v0 v1 v2 v3 v4 v5 v6 v7 v8 v9 v10 : Value} (h : Row w k t cs) (hk : k ≠ g) : Row (((((((((((w.setCell ⟨g, 0, none⟩ v0).setCell ⟨g, 1, none⟩ v1).setCell ⟨g, 2, none⟩ v2).setCell ⟨g, 3, none⟩ v3).setCell ⟨g, 4, none⟩ v4).setCell ⟨g, 5, none⟩ v5).setCell ⟨g, 6, none⟩ v6).setCell ⟨g, 7, none⟩ v7).setCell ⟨g, 8, none⟩ v8).setCell ⟨g, 9, none⟩ v9).setCell ⟨g, 10, none⟩ v10) k t cs :=
  (((((((((((h.setFar hk _).setFar hk _).setFar hk _).setFar hk _).setFar hk _).setFar hk _).setFar hk _).setFar hk _).setFar hk _).setFar hk _).setFar hk _)
theorem below11 {a w : World} {g B : Nat} {v0 v1 v2 v3 v4 v5 v6 v7 v8 v9 v10 : Value} (h : Below B a w) (hk : B ≤ g) : Below B a (((((((((((w.setCell ⟨g, 0, none⟩ v0).setCell ⟨g, 1, none⟩ v1).setCell ⟨g, 2, none⟩ v2).setCell ⟨g, 3, none⟩ v3).setCell ⟨g, 4, none⟩ v4).setCell ⟨g, 5, none⟩ v5).setCell ⟨g, 6, none⟩ v6).setCell ⟨g, 7, none⟩ v7).setCell ⟨g, 8, none⟩ v8).setCell ⟨g, 9, none⟩ v9).setCell ⟨g, 10, none⟩ v10) :=
  (((((((((((h.setCell hk _).setCell hk _).setCell hk _).setCell hk _).setCell hk _).setCell hk _).setCell hk _).setCell hk _).setCell hk _).setCell hk _).setCell hk _)
theorem go_on {p : World → Prop} {W w : World} {g9 g6 B : Nat} {c9 : List Value} (h9 : Row W g9 28 c9) (h6 : Row W g6 28 [.int .i64 0, .string ⟨#[]⟩, .int .i64 0, .int .u64 0, .string ⟨#[]⟩, .int .i64 0, .int .i64 0, .int .i64 0, .int .i64 0, .slice none 0 0, .slice none 0 0]) (hB : Below B w W)
    (h : ∀ wz, Row wz g9 28 c9 → Row wz g6 28 [.int .i64 0, .string ⟨#[]⟩, .int .i64 0, .int .u64 0, .string ⟨#[]⟩, .int .i64 0, .int .i64 0, .int .i64 0, .int .i64 0, .slice none 0 0, .slice none 0 0] → Below B w wz → p wz) : p W := h W h9 h6 hB
theorem below_drew {B : Nat} {a w : World} (h : Below B a w) : Below B a w.drew := ⟨h.os, h.tape, h.output, h.size, h.block⟩
set_option maxRecDepth 200000 in
set_option maxHeartbeats 4000000 in
theorem bin3_of (op t s u : ByteArray) (a b x y : Int) (d : Dat) (r : Bool) (w : World)
    (hf : ∀ w, Calls Tryz.prog 69 #[.string op, .string t, .float .f64 x.toNat, .float .f64 y.toNat] w fun e w' => e = .returned (.tuple #[d.val, .bool r]) ∧ Below w.heap.size w w') :
    Calls Tryz.prog 43 #[.string op, (mk 3 t a x s).val, (mk 3 t b y u).val] w fun e w' => e = .returned (.tuple #[d.val, .bool r, .nilIface]) ∧ Below w.heap.size w w' := by
    unfold Dat.val at hf
    unfold mk Dat.val
    go_enter Tryz.func43, Tryz.ntmps43
    go_wp2_with fail
    obtain ⟨w1, RA, RB, RC, HB, e⟩ : ∃ w1, Row w1 w.heap.size 28 [.int .i64 3, .string t, .int .i64 a, .int .u64 x, .string s, .int .i64 0, .int .i64 0, .int .i64 0, .int .i64 0, .slice none 0 0, .slice none 0 0] ∧ Row w1 (w.heap.size + 1) 28 [.int .i64 3, .string t, .int .i64 b, .int .u64 y, .string u, .int .i64 0, .int .i64 0, .int .i64 0, .int .i64 0, .slice none 0 0, .slice none 0 0] ∧ Row w1 (w.heap.size + 1 + 1) 28 [.int .i64 0, .string ⟨#[]⟩, .int .i64 0, .int .u64 0, .string ⟨#[]⟩, .int .i64 0, .int .i64 0, .int .i64 0, .int .i64 0, .slice none 0 0, .slice none 0 0] ∧ Below w.heap.size w w1 ∧ (((w.alloc (.cells [.int .i64 3, .string t, .int .i64 a, .int .u64 x, .string s, .int .i64 0, .int .i64 0, .int .i64 0, .int .i64 0, .slice none 0 0, .slice none 0 0].toArray 28)).alloc (.cells [.int .i64 3, .string t, .int .i64 b, .int .u64 y, .string u, .int .i64 0, .int .i64 0, .int .i64 0, .int .i64 0, .slice none 0 0, .slice none 0 0].toArray 28)).alloc (.cells [.int .i64 0, .string ⟨#[]⟩, .int .i64 0, .int .u64 0, .string ⟨#[]⟩, .int .i64 0, .int .i64 0, .int .i64 0, .int .i64 0, .slice none 0 0, .slice none 0 0].toArray 28)) = w1 :=
      ⟨_, ((Row.made w 28 _).alloc _).alloc _, (row_at1' w _ 28 _).alloc _, row_at2 w _ _ 28 _, below3 w _ _ _, rfl⟩
    rw [e]
    clear e
    have k1 := RA.cell 1
    have k2 := RA.cell 3
    have k3 := RB.cell 3
    simp only [List.getElem?_cons_zero, List.getElem?_cons_succ] at k1 k2 k3
    have n1 := World.new_ne _ _ k1
    have n2 := World.new_ne _ _ k2
    have n3 := World.new_ne _ _ k3
    have n4 : Hid (w.heap.size + 1 + 1 ≠ w1.heap.size) := Nat.ne_of_lt RC.lt
    have n5 : Hid (w.heap.size ≤ w1.heap.size) := HB.size
    replace RA := Lib.hid RA
    replace RB := Lib.hid RB
    replace RC := Lib.hid RC
    replace HB := Lib.hid HB
    go_region_held3 (fun w' => w'.cell? ⟨w.heap.size, 1, none⟩ = some (.string t) ∧ w'.cell? ⟨w.heap.size, 3, none⟩ = some (.int .u64 x) ∧ w'.cell? ⟨w.heap.size + 1, 3, none⟩ = some (.int .u64 y)) (first | go_keep | exact ⟨k1, k2, k3⟩) (first | (go_at_call 69; refine (hf _).mono ?_; rintro en w2 ⟨rfl, hb⟩; (with_reducible have RA2 := RA.out.drew.below hb RA.out.drew.lt); have RB2 := RB.out.drew.below hb RB.out.drew.lt; have RC2 := Lib.hid (RC.out.drew.below hb RC.out.drew.lt); have HB2 : Hid (Below w.heap.size w w2) := below_more (below_drew HB.out) hb HB.out.size; have k1 := RA2.cell 1; have k2 := RA2.cell 3; have k3 := RB2.cell 3; simp only [List.getElem?_cons_zero, List.getElem?_cons_succ] at k1 k2 k3; have n1 := World.new_ne _ _ k1; have n2 := World.new_ne _ _ k2; have n3 := World.new_ne _ _ k3; clear RA2 RB2 hb) | (go_at_call 69; refine (hf _).mono ?_; rintro en w2 ⟨rfl, hb⟩; have RA2 := (RA.out.alloc _).drew.below hb (RA.out.alloc _).drew.lt; have RB2 := (RB.out.alloc _).drew.below hb (RB.out.alloc _).drew.lt; have RC2 := Lib.hid ((RC.out.alloc _).drew.below hb (RC.out.alloc _).drew.lt); have RD2 := Lib.hid ((Row.made w1 28 [.int .i64 0, .string ⟨#[]⟩, .int .i64 0, .int .u64 0, .string ⟨#[]⟩, .int .i64 0, .int .i64 0, .int .i64 0, .int .i64 0, .slice none 0 0, .slice none 0 0]).drew.below hb (Row.made w1 28 [.int .i64 0, .string ⟨#[]⟩, .int .i64 0, .int .u64 0, .string ⟨#[]⟩, .int .i64 0, .int .i64 0, .int .i64 0, .int .i64 0, .slice none 0 0, .slice none 0 0]).drew.lt); have HB2 : Hid (Below w.heap.size w w2) := below_more (below_drew (HB.out.alloc HB.out.size _)) hb (by have := HB.out.size; simp [World.drew] <;> omega); have k1 := RA2.cell 1; have k2 := RA2.cell 3; have k3 := RB2.cell 3; obtain ⟨c0, c1, c2, c3, c4, c5, c6, c7, c8, c9, c10, cf⟩ := row11 RD2.out; simp only [List.getElem?_cons_zero, List.getElem?_cons_succ] at k1 k2 k3; have n1 := World.new_ne _ _ k1; have n2 := World.new_ne _ _ k2; have n3 := World.new_ne _ _ k3; clear RA2 RB2 hb))
    all_goals
      first
        | with_reducible refine go_on (p := Exit.then _ _ _ _) (g6 := w.heap.size + 1 + 1) (c9 := [.int .i64 d.k, .string d.t, .int .i64 d.n, .int .u64 d.f, .string d.s, .int .i64 d.ro, .int .i64 d.rf, .int .i64 d.rl, .int .i64 d.rc, .slice d.pa d.pn d.pc, .slice d.ia d.iN d.ic]) (B := w.heap.size) (w := w) (Row.made w2 28 [.int .i64 d.k, .string d.t, .int .i64 d.n, .int .u64 d.f, .string d.s, .int .i64 d.ro, .int .i64 d.rf, .int .i64 d.rl, .int .i64 d.rc, .slice d.pa d.pn d.pc, .slice d.ia d.iN d.ic]) (RC2.out.alloc _) (HB2.out.alloc HB2.out.size _) ?_
        | with_reducible refine go_on (p := Exit.then _ _ _ _) (g6 := w.heap.size + 1 + 1) (c9 := [.int .i64 d.k, .string d.t, .int .i64 d.n, .int .u64 d.f, .string d.s, .int .i64 d.ro, .int .i64 d.rf, .int .i64 d.rl, .int .i64 d.rc, .slice d.pa d.pn d.pc, .slice d.ia d.iN d.ic]) (B := w.heap.size) (w := w) (set11 RD2.out) (far11 RC2.out n4.out) (below11 HB2.out n5.out) ?_
      intro wz R9 R6 HBz
      obtain ⟨p0, p1, p2, p3, p4, p5, p6, p7, p8, p9, p10, pf⟩ := row11 R9
      obtain ⟨q0, q1, q2, q3, q4, q5, q6, q7, q8, q9, q10, qf⟩ := row11 R6
      replace HBz := Lib.hid HBz
      replace R6 := Lib.hid R6
      clear R9
      go_wp2
      exact bodyPost_ret (ret_ctt rfl _ _ (w.heap.size + 1 + 1) _ rfl (set11 R6.out) rfl) rfl ⟨rfl, below11 HBz.out (by omega)⟩
end Go.Proofs.YtehakhplglhkdaaGreatDoor
