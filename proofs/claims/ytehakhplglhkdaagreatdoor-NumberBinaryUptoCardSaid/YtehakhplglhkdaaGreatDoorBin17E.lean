/- number.Binary by number.binary: a fault. Conditions: as said. -/
import Derived.Test.YtehakhplglhkdaaGreatDoorBin17N
namespace Go.Proofs.YtehakhplglhkdaaGreatDoor
set_option linter.unusedVariables false
open Go.RowKit

set_option maxRecDepth 200000 in
set_option maxHeartbeats 2000000 in
theorem bin17_err (op x y : ByteArray) (k : Int) (t s : ByteArray) (n f ro rf rl rc : Int) (pa ia : Option Addr) (pn pc iN ic : Nat) (s2 : ByteArray) (n2 f2 ro2 rf2 rl2 rc2 : Int) (pa2 ia2 : Option Addr) (pn2 pc2 iN2 ic2 : Nat) (w : World)
    (hf : ∀ W, Below w.heap.size w W → Calls Tryz.prog 43 #[.string op, (Dat.mk k t n f s ro rf rl rc pa pn pc ia iN ic).val, (Dat.mk k t n2 f2 s2 ro2 rf2 rl2 rc2 pa2 pn2 pc2 ia2 iN2 ic2).val] W fun e w' => ∃ v, e = .returned (.tuple #[zeroD.val, .bool false, v]) ∧ IsFault W w' v x y ∧ Below W.heap.size W w') :
    Calls Tryz.prog 17 #[.string op, (Dat.mk k t n f s ro rf rl rc pa pn pc ia iN ic).val, (Dat.mk k t n2 f2 s2 ro2 rf2 rl2 rc2 pa2 pn2 pc2 ia2 iN2 ic2).val] w fun e w' => ∃ v, e = .returned (.tuple #[zeroD.val, v]) ∧ IsFault w w' v x y ∧ Below w.heap.size w w' := by
  have HI := Lib.hid hf
  clear hf
  unfold zeroD mk Dat.val at *
  go_enter Tryz.func17, Tryz.ntmps17
  go_wp2_with (first
    | (go_at_call 43; refine (HI.out _ ?hW).mono ?_
       case hW => exact below3 w _ _ _
       rintro en w2 ⟨v, rfl, ⟨g, rfl, hg, hr⟩, hb⟩
       have hR2 : Hid (Row w2 (w.heap.size + 1 + 1) 28 zeroC) := (row_at2 w _ _ 28 zeroC).below hb (by simp)
       have hB2 : Hid (Below w.heap.size w w2) := below_more (below3 w _ _ _) hb (by simp <;> omega)
       have hF2 := Lib.hid hr
       have hgs : w.heap.size + 1 + 1 < g := by simp at hg; omega
       clear hr hb hg HI)
    | (refine put_dat (.tmp 6) (.tmp 36) (w.heap.size + 1 + 1) zeroC zeroD.cells _ rfl rfl rfl rfl (hR2.out.alloc _) rfl rfl rfl ?_; intro w5 hr5 hb5 hf5
       have hB5 : Hid (Below w.heap.size w w5) := (below_more hB2.out (below1 _ _) hB2.out.size).trans (hb5 _ (by omega))
       have hR5 := Lib.hid hr5
       have hF5 : Hid (Row w5 g 35 [.string x, .string y]) := (hf5 g (by omega)).trans (hF2.out.alloc _)
       clear hB2 hR2 hb5 hr5 hf5 hF2))
  refine bodyPost_ret (ret_ct rfl _ _ (w.heap.size + 1 + 1) _ rfl hR5.out rfl) rfl ⟨_, rfl, ⟨g, rfl, by omega, hF5.out⟩, hB5.out⟩
set_option maxRecDepth 200000 in
set_option maxHeartbeats 8000000 in
theorem bin17_no (op : ByteArray) (k : Int) (t s : ByteArray) (n f ro rf rl rc : Int) (pa ia : Option Addr) (pn pc iN ic : Nat) (s2 : ByteArray) (n2 f2 ro2 rf2 rl2 rc2 : Int) (pa2 ia2 : Option Addr) (pn2 pc2 iN2 ic2 : Nat) (d : Dat) (w : World) (hs : op.size + t.size + t.size ≤ 3000000)
    (hf : ∀ w, Calls Tryz.prog 43 #[.string op, (Dat.mk k t n f s ro rf rl rc pa pn pc ia iN ic).val, (Dat.mk k t n2 f2 s2 ro2 rf2 rl2 rc2 pa2 pn2 pc2 ia2 iN2 ic2).val] w fun e w' => e = .returned (.tuple #[d.val, .bool false, .nilIface]) ∧ Below w.heap.size w w') :
    Calls Tryz.prog 17 #[.string op, (Dat.mk k t n f s ro rf rl rc pa pn pc ia iN ic).val, (Dat.mk k t n2 f2 s2 ro2 rf2 rl2 rc2 pa2 pn2 pc2 ia2 iN2 ic2).val] w fun e w' => ∃ v, e = .returned (.tuple #[zeroD.val, v]) ∧ IsFault w w' v sOperand (op ++ ⟨#[32]⟩ ++ nameOf (Dat.mk k t n f s ro rf rl rc pa pn pc ia iN ic) ++ ⟨#[32]⟩ ++ nameOf (Dat.mk k t n2 f2 s2 ro2 rf2 rl2 rc2 pa2 pn2 pc2 ia2 iN2 ic2)) ∧ Below w.heap.size w w' := by
  have HF := Lib.hid hf
  clear hf
  have hn1 := fun w => name_any (Dat.mk k t n f s ro rf rl rc pa pn pc ia iN ic) w (by simp only; omega)
  have hn2 := fun w => name_any (Dat.mk k t n2 f2 s2 ro2 rf2 rl2 rc2 pa2 pn2 pc2 ia2 iN2 ic2) w (by simp only; omega)
  have hz := name_size (Dat.mk k t n f s ro rf rl rc pa pn pc ia iN ic)
  have hz2 := name_size (Dat.mk k t n2 f2 s2 ro2 rf2 rl2 rc2 pa2 pn2 pc2 ia2 iN2 ic2)
  generalize nameOf (Dat.mk k t n f s ro rf rl rc pa pn pc ia iN ic) = nm at *
  generalize nameOf (Dat.mk k t n2 f2 s2 ro2 rf2 rl2 rc2 pa2 pn2 pc2 ia2 iN2 ic2) = nm2 at *
  have hs2 : Hid (op.size + nm.size + nm2.size ≤ 4000000) := Lib.hid (by simp only at hz hz2; omega)
  clear hz hz2 hs
  unfold Dat.val at *
  go_enter Tryz.func17, Tryz.ntmps17
  go_wp2_with (first
    | (go_at_call 43; refine (HF.out _).mono ?_
       rintro en w2 ⟨rfl, hb⟩
       have RA2 : Hid (Row w2 w.heap.size 28 [.int .i64 k, .string t, .int .i64 n, .int .u64 f, .string s, .int .i64 ro, .int .i64 rf, .int .i64 rl, .int .i64 rc, .slice pa pn pc, .slice ia iN ic]) := (((Row.made w 28 _).alloc _).alloc _).below hb (by simp <;> omega)
       have RB2 : Hid (Row w2 (w.heap.size + 1) 28 [.int .i64 k, .string t, .int .i64 n2, .int .u64 f2, .string s2, .int .i64 ro2, .int .i64 rf2, .int .i64 rl2, .int .i64 rc2, .slice pa2 pn2 pc2, .slice ia2 iN2 ic2]) := ((row_atOne w _ 28 _).alloc _).below hb (by simp)
       have RC2 : Hid (Row w2 (w.heap.size + 1 + 1) 28 [.int .i64 0, .string ⟨#[]⟩, .int .i64 0, .int .u64 0, .string ⟨#[]⟩, .int .i64 0, .int .i64 0, .int .i64 0, .int .i64 0, .slice none 0 0, .slice none 0 0]) := (row_at2 w _ _ 28 _).below hb (by simp)
       have HB2 : Hid (Below w.heap.size w w2) := below_more (below3 w _ _ _) hb (by simp <;> omega)
       clear hb HF))
  obtain ⟨w1, RA, RB, RC, HB, e⟩ : ∃ w1, Row w1 w.heap.size 28 [.int .i64 k, .string t, .int .i64 n, .int .u64 f, .string s, .int .i64 ro, .int .i64 rf, .int .i64 rl, .int .i64 rc, .slice pa pn pc, .slice ia iN ic] ∧ Row w1 (w.heap.size + 1) 28 [.int .i64 k, .string t, .int .i64 n2, .int .u64 f2, .string s2, .int .i64 ro2, .int .i64 rf2, .int .i64 rl2, .int .i64 rc2, .slice pa2 pn2 pc2, .slice ia2 iN2 ic2] ∧ Row w1 (w.heap.size + 1 + 1) 28 [.int .i64 0, .string ⟨#[]⟩, .int .i64 0, .int .u64 0, .string ⟨#[]⟩, .int .i64 0, .int .i64 0, .int .i64 0, .int .i64 0, .slice none 0 0, .slice none 0 0] ∧ Below w.heap.size w w1 ∧ w2.alloc (.cells ([.int .i64 d.k, .string d.t, .int .i64 d.n, .int .u64 d.f, .string d.s, .int .i64 d.ro, .int .i64 d.rf, .int .i64 d.rl, .int .i64 d.rc, .slice d.pa d.pn d.pc, .slice d.ia d.iN d.ic] : List Value).toArray 28) = w1 :=
    ⟨_, RA2.out.alloc _, RB2.out.alloc _, RC2.out.alloc _, HB2.out.alloc HB2.out.size _, rfl⟩
  rw [e]
  clear e RA2 RB2 RC2 HB2
  have HN1 := Lib.hid hn1
  have HN2 := Lib.hid hn2
  clear hn1 hn2
  obtain ⟨k1_0, k1_1, k1_2, k1_3, k1_4, k1_5, k1_6, k1_7, k1_8, k1_9, k1_10, k1f⟩ := row11 RA
  obtain ⟨k2_0, k2_1, k2_2, k2_3, k2_4, k2_5, k2_6, k2_7, k2_8, k2_9, k2_10, k2f⟩ := row11 RB
  replace RA := Lib.hid RA
  replace RB := Lib.hid RB
  replace RC := Lib.hid RC
  replace HB := Lib.hid HB
  have d1 : w.heap.size + 1 + 1 ≠ w.heap.size := by omega
  have d2 : w.heap.size + 1 + 1 ≠ w.heap.size + 1 := by omega
  have d3 : w.heap.size ≠ w.heap.size + 1 + 1 := by omega
  have d4 : w.heap.size + 1 ≠ w.heap.size + 1 + 1 := by omega
  go_region_held3 (fun w' => w'.cell? ⟨w.heap.size, 0, none⟩ = some (.int .i64 k) ∧ w'.cell? ⟨w.heap.size, 1, none⟩ = some (.string t) ∧ w'.cell? ⟨w.heap.size, 2, none⟩ = some (.int .i64 n) ∧ w'.cell? ⟨w.heap.size, 3, none⟩ = some (.int .u64 f) ∧ w'.cell? ⟨w.heap.size, 4, none⟩ = some (.string s) ∧ w'.cell? ⟨w.heap.size, 5, none⟩ = some (.int .i64 ro) ∧ w'.cell? ⟨w.heap.size, 6, none⟩ = some (.int .i64 rf) ∧ w'.cell? ⟨w.heap.size, 7, none⟩ = some (.int .i64 rl) ∧ w'.cell? ⟨w.heap.size, 8, none⟩ = some (.int .i64 rc) ∧ w'.cell? ⟨w.heap.size, 9, none⟩ = some (.slice pa pn pc) ∧ w'.cell? ⟨w.heap.size, 10, none⟩ = some (.slice ia iN ic) ∧ w'.cell? ⟨w.heap.size + 1, 0, none⟩ = some (.int .i64 k) ∧ w'.cell? ⟨w.heap.size + 1, 1, none⟩ = some (.string t) ∧ w'.cell? ⟨w.heap.size + 1, 2, none⟩ = some (.int .i64 n2) ∧ w'.cell? ⟨w.heap.size + 1, 3, none⟩ = some (.int .u64 f2) ∧ w'.cell? ⟨w.heap.size + 1, 4, none⟩ = some (.string s2) ∧ w'.cell? ⟨w.heap.size + 1, 5, none⟩ = some (.int .i64 ro2) ∧ w'.cell? ⟨w.heap.size + 1, 6, none⟩ = some (.int .i64 rf2) ∧ w'.cell? ⟨w.heap.size + 1, 7, none⟩ = some (.int .i64 rl2) ∧ w'.cell? ⟨w.heap.size + 1, 8, none⟩ = some (.int .i64 rc2) ∧ w'.cell? ⟨w.heap.size + 1, 9, none⟩ = some (.slice pa2 pn2 pc2) ∧ w'.cell? ⟨w.heap.size + 1, 10, none⟩ = some (.slice ia2 iN2 ic2)) (first | go_keep | exact ⟨k1_0, k1_1, k1_2, k1_3, k1_4, k1_5, k1_6, k1_7, k1_8, k1_9, k1_10, k2_0, k2_1, k2_2, k2_3, k2_4, k2_5, k2_6, k2_7, k2_8, k2_9, k2_10⟩) (first | (go_at_call 34; (with_reducible refine (HN1.out _).mono ?_); rintro en w2 ⟨rfl, hb⟩; have RAx := RA.out.drew.below hb RA.out.drew.lt; have RBx := RB.out.drew.below hb RB.out.drew.lt; have RCx := RC.out.drew.below hb RC.out.drew.lt; have HBx : Below w.heap.size w w2 := below_more (below_drew HB.out) hb HB.out.size; clear RA RB RC HB HN1 hb; have RA := Lib.hid RAx; have RB := Lib.hid RBx; have RC := Lib.hid RCx; have HB := Lib.hid HBx; clear RAx RBx RCx HBx; obtain ⟨k1_0, k1_1, k1_2, k1_3, k1_4, k1_5, k1_6, k1_7, k1_8, k1_9, k1_10, k1f⟩ := row11 RA.out; obtain ⟨k2_0, k2_1, k2_2, k2_3, k2_4, k2_5, k2_6, k2_7, k2_8, k2_9, k2_10, k2f⟩ := row11 RB.out) | (go_at_call 34; (with_reducible refine (HN2.out _).mono ?_); rintro en w2 ⟨rfl, hb⟩; have RAx := RA.out.drew.below hb RA.out.drew.lt; have RBx := RB.out.drew.below hb RB.out.drew.lt; have RCx := RC.out.drew.below hb RC.out.drew.lt; have HBx : Below w.heap.size w w2 := below_more (below_drew HB.out) hb HB.out.size; clear RA RB RC HB HN2 hb; have RA := Lib.hid RAx; have RB := Lib.hid RBx; have RC := Lib.hid RCx; have HB := Lib.hid HBx; clear RAx RBx RCx HBx; obtain ⟨k1_0, k1_1, k1_2, k1_3, k1_4, k1_5, k1_6, k1_7, k1_8, k1_9, k1_10, k1f⟩ := row11 RA.out; obtain ⟨k2_0, k2_1, k2_2, k2_3, k2_4, k2_5, k2_6, k2_7, k2_8, k2_9, k2_10, k2f⟩ := row11 RB.out) | (go_at_call 34; (with_reducible refine (HN1.out _).mono ?_); rintro en w3 ⟨rfl, hb⟩; have RAx := RA.out.below hb RA.out.lt; have RBx := RB.out.below hb RB.out.lt; have RCx := RC.out.below hb RC.out.lt; have HBx : Below w.heap.size w w3 := below_more (HB.out) hb HB.out.size; clear RA RB RC HB HN1 hb; have RA := Lib.hid RAx; have RB := Lib.hid RBx; have RC := Lib.hid RCx; have HB := Lib.hid HBx; clear RAx RBx RCx HBx; obtain ⟨k1_0, k1_1, k1_2, k1_3, k1_4, k1_5, k1_6, k1_7, k1_8, k1_9, k1_10, k1f⟩ := row11 RA.out; obtain ⟨k2_0, k2_1, k2_2, k2_3, k2_4, k2_5, k2_6, k2_7, k2_8, k2_9, k2_10, k2f⟩ := row11 RB.out) | (go_at_call 34; (with_reducible refine (HN2.out _).mono ?_); rintro en w3 ⟨rfl, hb⟩; have RAx := RA.out.below hb RA.out.lt; have RBx := RB.out.below hb RB.out.lt; have RCx := RC.out.below hb RC.out.lt; have HBx : Below w.heap.size w w3 := below_more (HB.out) hb HB.out.size; clear RA RB RC HB HN2 hb; have RA := Lib.hid RAx; have RB := Lib.hid RBx; have RC := Lib.hid RCx; have HB := Lib.hid HBx; clear RAx RBx RCx HBx; obtain ⟨k1_0, k1_1, k1_2, k1_3, k1_4, k1_5, k1_6, k1_7, k1_8, k1_9, k1_10, k1f⟩ := row11 RA.out; obtain ⟨k2_0, k2_1, k2_2, k2_3, k2_4, k2_5, k2_6, k2_7, k2_8, k2_9, k2_10, k2f⟩ := row11 RB.out) | (go_at_call 39; refine (operand3 w3.heap.size _ op nm nm2 _ (Row.made w3 _ [.string op, .string nm, .string nm2]) hs2.out).mono ?_; rintro en w4 ⟨v, rfl, ⟨g, rfl, hg, hr⟩, hb⟩; have RAx := (RA.out.alloc _).below hb (RA.out.alloc _).lt; have RBx := (RB.out.alloc _).below hb (RB.out.alloc _).lt; have RCx := (RC.out.alloc _).below hb (RC.out.alloc _).lt; have HBx : Below w.heap.size w w4 := below_more (HB.out.alloc HB.out.size _) hb (by have := HB.out.size; simp <;> omega); have HG4 : Hid (w.heap.size + 1 + 1 < g) := Lib.hid (by have := RC.out.lt; simp at hg; omega); have HF4 := Lib.hid hr; clear RA RB RC HB hb hr hg; have RC := Lib.hid RCx; have HB := Lib.hid HBx; obtain ⟨k1_0, k1_1, k1_2, k1_3, k1_4, k1_5, k1_6, k1_7, k1_8, k1_9, k1_10, k1f⟩ := row11 RAx; obtain ⟨k2_0, k2_1, k2_2, k2_3, k2_4, k2_5, k2_6, k2_7, k2_8, k2_9, k2_10, k2f⟩ := row11 RBx; obtain ⟨c0, c1, c2, c3, c4, c5, c6, c7, c8, c9, c10, cf⟩ := row11 RC.out; clear RAx RBx RCx HBx))
  all_goals
    go_wp2
    exact bodyPost_ret (ret_ct rfl _ _ (w.heap.size + 1 + 1) _ rfl (set11 RC.out) rfl) rfl ⟨_, rfl, ⟨g, rfl, by have := HG4.out; omega, far11 HF4.out (by have := HG4.out; omega)⟩, below11 HB.out (by omega)⟩
end Go.Proofs.YtehakhplglhkdaaGreatDoor
