/- Texts of this proof, put together: OpsD, OpsE, FoldB. -/
import Derived.Test.YtmecmlpoallpcaaGreatDoorM28
import Derived.Test.YtmecmlpoallpcaaGreatDoorM26
set_option linter.unusedSimpArgs false
/- peep.unary (92). -/
namespace Go.Proofs.YtmecmlpoallpcaaGreatDoor
set_option linter.unusedVariables false
open Go.RowKit Go.Proofs.PeepPlain

/-- What peep.unary and peep.binary answer. -/
def PeepPost (r : Option Cst) (w : World) (e : Ending) (w' : World) : Prop :=
  (match r with
    | some d => e = .returned (.tuple #[(datOf d).val, .bool true])
    | none => ∃ x : Dat, e = .returned (.tuple #[x.val, .bool false])) ∧ Below w.heap.size w w'
theorem peep_some {r : Option Cst} {d : Cst} (h : r = some d) {w w' : World} {e : Ending} (he : e = .returned (.tuple #[(datOf d).val, .bool true])) (hb : Below w.heap.size w w') : PeepPost r w e w' := by
  subst h
  exact ⟨he, hb⟩
theorem peep_none {r : Option Cst} (h : r = none) {w w' : World} {e : Ending} (x : Dat) (he : e = .returned (.tuple #[x.val, .bool false])) (hb : Below w.heap.size w w') : PeepPost r w e w' := by
  subst h
  exact ⟨⟨x, he⟩, hb⟩
set_option maxRecDepth 200000 in
set_option maxHeartbeats 4000000 in
theorem un_plus (k n : Int) (t : ByteArray) (w : World) : Calls Tryz.prog 92 #[.string ⟨#[43, 43]⟩, (mk k t n 0 ⟨#[]⟩).val] w fun e w' => e = .returned (.tuple #[(mk k t (wrap64 (n + 1)) 0 ⟨#[]⟩).val, .bool (k == 2)]) ∧ Below w.heap.size w w' := by
  unfold mk Dat.val
  go_enter Tryz.func92, Tryz.ntmps92
  go_wp2
  obtain ⟨w1, RA, RB, HB, e⟩ : ∃ w1, Row w1 w.heap.size 131 [.int .i64 k, .string t, .int .i64 (wrap64 (n + 1)), .int .u64 0, .string ⟨#[]⟩, .int .i64 0, .int .i64 0, .int .i64 0, .int .i64 0, .slice none 0 0, .slice none 0 0] ∧ Row w1 (w.heap.size + 1) 131 zeroC ∧ Below w.heap.size w w1 ∧ ((w.alloc (.cells #[.int .i64 k, .string t, .int .i64 (wrap64 (n + 1)), .int .u64 0, .string ⟨#[]⟩, .int .i64 0, .int .i64 0, .int .i64 0, .int .i64 0, .slice none 0 0, .slice none 0 0] 131)).alloc (.cells #[.int .i64 0, .string ⟨#[]⟩, .int .i64 0, .int .u64 0, .string ⟨#[]⟩, .int .i64 0, .int .i64 0, .int .i64 0, .int .i64 0, .slice none 0 0, .slice none 0 0] 131)) = w1 :=
    ⟨_, (Row.made w 131 _).alloc _, row_atOne w _ 131 _, below2 w _ _, rfl⟩
  rw [e]
  clear e
  obtain ⟨k1_0, k1_1, k1_2, k1_3, k1_4, k1_5, k1_6, k1_7, k1_8, k1_9, k1_10, k1f⟩ := row11 RA
  obtain ⟨k2_0, k2_1, k2_2, k2_3, k2_4, k2_5, k2_6, k2_7, k2_8, k2_9, k2_10, k2f⟩ := row11 RB
  replace RA := Lib.hid RA
  replace RB := Lib.hid RB
  replace HB := Lib.hid HB
  go_region
  all_goals go_wp2
  all_goals exact bodyPost_ret (ret_ct rfl _ _ (w.heap.size + 1) _ rfl (set11 RB.out).drew rfl) rfl ⟨rfl, below_drew (below11 HB.out (by omega))⟩
set_option maxRecDepth 200000 in
set_option maxHeartbeats 4000000 in
theorem un_minus (k n : Int) (t : ByteArray) (w : World) : Calls Tryz.prog 92 #[.string ⟨#[45, 45]⟩, (mk k t n 0 ⟨#[]⟩).val] w fun e w' => e = .returned (.tuple #[(mk k t (wrap64 (n - 1)) 0 ⟨#[]⟩).val, .bool (k == 2)]) ∧ Below w.heap.size w w' := by
  unfold mk Dat.val
  go_enter Tryz.func92, Tryz.ntmps92
  go_wp2
  obtain ⟨w1, RA, RB, HB, e⟩ : ∃ w1, Row w1 w.heap.size 131 [.int .i64 k, .string t, .int .i64 (wrap64 (n - 1)), .int .u64 0, .string ⟨#[]⟩, .int .i64 0, .int .i64 0, .int .i64 0, .int .i64 0, .slice none 0 0, .slice none 0 0] ∧ Row w1 (w.heap.size + 1) 131 zeroC ∧ Below w.heap.size w w1 ∧ ((w.alloc (.cells #[.int .i64 k, .string t, .int .i64 (wrap64 (n - 1)), .int .u64 0, .string ⟨#[]⟩, .int .i64 0, .int .i64 0, .int .i64 0, .int .i64 0, .slice none 0 0, .slice none 0 0] 131)).alloc (.cells #[.int .i64 0, .string ⟨#[]⟩, .int .i64 0, .int .u64 0, .string ⟨#[]⟩, .int .i64 0, .int .i64 0, .int .i64 0, .int .i64 0, .slice none 0 0, .slice none 0 0] 131)) = w1 :=
    ⟨_, (Row.made w 131 _).alloc _, row_atOne w _ 131 _, below2 w _ _, rfl⟩
  rw [e]
  clear e
  obtain ⟨k1_0, k1_1, k1_2, k1_3, k1_4, k1_5, k1_6, k1_7, k1_8, k1_9, k1_10, k1f⟩ := row11 RA
  obtain ⟨k2_0, k2_1, k2_2, k2_3, k2_4, k2_5, k2_6, k2_7, k2_8, k2_9, k2_10, k2f⟩ := row11 RB
  replace RA := Lib.hid RA
  replace RB := Lib.hid RB
  replace HB := Lib.hid HB
  go_region
  all_goals go_wp2
  all_goals exact bodyPost_ret (ret_ct rfl _ _ (w.heap.size + 1) _ rfl (set11 RB.out).drew rfl) rfl ⟨rfl, below_drew (below11 HB.out (by omega))⟩
set_option maxRecDepth 200000 in
set_option maxHeartbeats 4000000 in
theorem un_ok (op : ByteArray) (h1 : (op.toList == [43, 43]) = false) (h2 : (op.toList == [45, 45]) = false) (d x : Dat) (w : World)
    (h : ∀ w, Calls Tryz.prog 119 #[.string op, d.val] w fun e w' => e = .returned (.tuple #[x.val, .nilIface]) ∧ Below w.heap.size w w') :
    Calls Tryz.prog 92 #[.string op, d.val] w fun e w' => e = .returned (.tuple #[x.val, .bool true]) ∧ Below w.heap.size w w' := by
  have H := Lib.hid h
  clear h
  obtain ⟨k, t, n, f, s, ro, rf, rl, rc, pa, pn, pc, ia, iN, ic⟩ := d
  obtain ⟨k2, t2, n2, f2, s2, ro2, rf2, rl2, rc2, pa2, pn2, pc2, ia2, iN2, ic2⟩ := x
  simp only [Dat.val] at *
  go_enter Tryz.func92, Tryz.ntmps92
  go_wp2_with (first
    | (go_at_call 119; refine (H.out _).mono ?_; rintro en w2 ⟨rfl, hb⟩
       have R2 := Lib.hid ((row_atOne w _ 131 zeroC).below hb (row_atOne w _ 131 zeroC).lt)
       have B2 := Lib.hid (below_more (below2 w _ _) hb (below2 w _ _).size)
       clear hb))
  obtain ⟨w3, RA, RB, HB, e⟩ : ∃ w3, Row w3 w2.heap.size 131 [.int .i64 k2, .string t2, .int .i64 n2, .int .u64 f2, .string s2, .int .i64 ro2, .int .i64 rf2, .int .i64 rl2, .int .i64 rc2, .slice pa2 pn2 pc2, .slice ia2 iN2 ic2] ∧ Row w3 (w.heap.size + 1) 131 zeroC ∧ Below w.heap.size w w3 ∧ w2.alloc (.cells #[.int .i64 k2, .string t2, .int .i64 n2, .int .u64 f2, .string s2, .int .i64 ro2, .int .i64 rf2, .int .i64 rl2, .int .i64 rc2, .slice pa2 pn2 pc2, .slice ia2 iN2 ic2] 131) = w3 :=
    ⟨_, Row.made w2 131 _, R2.out.alloc _, B2.out.alloc B2.out.size _, rfl⟩
  rw [e]
  clear e
  have hne : w2.heap.size ≠ w.heap.size + 1 := by have := R2.out.lt; omega
  have hne2 : w.heap.size + 1 ≠ w2.heap.size := fun h => hne h.symm
  obtain ⟨k1_0, k1_1, k1_2, k1_3, k1_4, k1_5, k1_6, k1_7, k1_8, k1_9, k1_10, k1f⟩ := row11 RA
  obtain ⟨k2_0, k2_1, k2_2, k2_3, k2_4, k2_5, k2_6, k2_7, k2_8, k2_9, k2_10, k2f⟩ := row11 RB
  replace RA := Lib.hid RA
  replace RB := Lib.hid RB
  replace HB := Lib.hid HB
  go_region
  all_goals go_wp2
  all_goals exact bodyPost_ret (ret_ct rfl _ _ (w.heap.size + 1) _ rfl (set11 RB.out).drew rfl) rfl ⟨rfl, below_drew (below11 HB.out (by omega))⟩
set_option maxRecDepth 200000 in
set_option maxHeartbeats 4000000 in
theorem un_err (op : ByteArray) (h1 : (op.toList == [43, 43]) = false) (h2 : (op.toList == [45, 45]) = false) (d : Dat) (w : World)
    (h : ∀ w, Calls Tryz.prog 119 #[.string op, d.val] w fun e w' => (∃ g, e = .returned (.tuple #[zeroD.val, .iface 209 (.pointer (some ⟨g, 0, none⟩))])) ∧ Below w.heap.size w w') :
    Calls Tryz.prog 92 #[.string op, d.val] w fun e w' => e = .returned (.tuple #[zeroD.val, .bool false]) ∧ Below w.heap.size w w' := by
  have H := Lib.hid h
  clear h
  obtain ⟨k, t, n, f, s, ro, rf, rl, rc, pa, pn, pc, ia, iN, ic⟩ := d
  simp only [Dat.val, zeroD, mk] at *
  go_enter Tryz.func92, Tryz.ntmps92
  go_wp2_with (first
    | (go_at_call 119; refine (H.out _).mono ?_; rintro en w2 ⟨⟨g, rfl⟩, hb⟩
       have R2 := Lib.hid ((row_atOne w _ 131 zeroC).below hb (row_atOne w _ 131 zeroC).lt)
       have B2 := Lib.hid (below_more (below2 w _ _) hb (below2 w _ _).size)
       clear hb))
  obtain ⟨w3, RA, RB, HB, e⟩ : ∃ w3, Row w3 w2.heap.size 131 [.int .i64 0, .string ⟨#[]⟩, .int .i64 0, .int .u64 0, .string ⟨#[]⟩, .int .i64 0, .int .i64 0, .int .i64 0, .int .i64 0, .slice none 0 0, .slice none 0 0] ∧ Row w3 (w.heap.size + 1) 131 zeroC ∧ Below w.heap.size w w3 ∧ w2.alloc (.cells #[.int .i64 0, .string ⟨#[]⟩, .int .i64 0, .int .u64 0, .string ⟨#[]⟩, .int .i64 0, .int .i64 0, .int .i64 0, .int .i64 0, .slice none 0 0, .slice none 0 0] 131) = w3 :=
    ⟨_, Row.made w2 131 _, R2.out.alloc _, B2.out.alloc B2.out.size _, rfl⟩
  rw [e]
  clear e
  have hne : w2.heap.size ≠ w.heap.size + 1 := by have := R2.out.lt; omega
  have hne2 : w.heap.size + 1 ≠ w2.heap.size := fun h => hne h.symm
  obtain ⟨k1_0, k1_1, k1_2, k1_3, k1_4, k1_5, k1_6, k1_7, k1_8, k1_9, k1_10, k1f⟩ := row11 RA
  obtain ⟨k2_0, k2_1, k2_2, k2_3, k2_4, k2_5, k2_6, k2_7, k2_8, k2_9, k2_10, k2f⟩ := row11 RB
  replace RA := Lib.hid RA
  replace RB := Lib.hid RB
  replace HB := Lib.hid HB
  go_region
  all_goals go_wp2
  all_goals exact bodyPost_ret (ret_ct rfl _ _ (w.heap.size + 1) _ rfl (set11 RB.out).drew rfl) rfl ⟨rfl, below_drew (below11 HB.out (by omega))⟩
theorem unOf_num (op : ByteArray) (c : Cst) (h1 : op.toList ≠ [43, 43]) (h2 : op.toList ≠ [45, 45]) : unOf op c = numUn op c := by
  cases c with
  | int n => show (if _ then _ else _) = _; rw [if_neg h1, if_neg h2]; rfl
  | flag n => show (if _ then _ else _) = _; rw [if_neg h1, if_neg h2]; rfl
/-- The contract of peep.unary. -/
theorem unary_walk (op : ByteArray) (hs : op.size ≤ 2000000) (c : Cst) (w : World) : Calls Tryz.prog 92 #[.string op, (datOf c).val] w (PeepPost (unOf op c) w) := by
  by_cases h1 : op.toList = [43, 43]
  · obtain rfl := bytes_are h1
    cases c with
    | int n => exact (un_plus 2 n ⟨#[105, 110, 116]⟩ w).mono fun e w' h => peep_some (d := .int (wrap64 (n + 1))) (if_pos h1) h.1 h.2
    | flag n => exact (un_plus 1 n ⟨#[98, 111, 111, 108]⟩ w).mono fun e w' h => peep_none (if_pos h1) _ h.1 h.2
  · by_cases h2 : op.toList = [45, 45]
    · obtain rfl := bytes_are h2
      cases c with
      | int n => exact (un_minus 2 n ⟨#[105, 110, 116]⟩ w).mono fun e w' h => peep_some (d := .int (wrap64 (n - 1))) (by show (if _ then _ else _) = _; rw [if_neg h1, if_pos h2]) h.1 h.2
      | flag n => exact (un_minus 1 n ⟨#[98, 111, 111, 108]⟩ w).mono fun e w' h => peep_none (by show (if _ then _ else _) = _; rw [if_neg h1, if_pos h2]) _ h.1 h.2
    · have hu := unOf_num op c h1 h2
      have H := num_unary op hs c
      cases hr : numUn op c with
      | some d =>
        rw [hr] at H
        exact (un_ok op (bytes_no h1) (bytes_no h2) (datOf c) (datOf d) w H).mono fun e w' h => peep_some (hu.trans hr) h.1 h.2
      | none =>
        rw [hr] at H
        exact (un_err op (bytes_no h1) (bytes_no h2) (datOf c) w H).mono fun e w' h => peep_none (hu.trans hr) _ h.1 h.2
end Go.Proofs.YtmecmlpoallpcaaGreatDoor

/- peep.binary (95). (Printed by gen_opse.py.) -/
namespace Go.Proofs.YtmecmlpoallpcaaGreatDoor
set_option linter.unusedVariables false
open Go.RowKit Go.Proofs.PeepPlain

set_option maxRecDepth 200000 in
set_option maxHeartbeats 8000000 in
theorem bi_ok (op : ByteArray) (h1 : (op.toList == [61, 61]) = false) (h2 : (op.toList == [33, 61]) = false) (d e0 x : Dat) (w : World)
    (h : ∀ w1, Below w.heap.size w w1 → Calls Tryz.prog 121 #[.string op, d.val, e0.val] w1 fun e w' => e = .returned (.tuple #[x.val, .nilIface]) ∧ Below w1.heap.size w1 w') :
    Calls Tryz.prog 95 #[.string op, d.val, e0.val] w fun e w' => e = .returned (.tuple #[x.val, .bool true]) ∧ Below w.heap.size w w' := by
  have H := Lib.hid h
  clear h
  obtain ⟨k, t, n, f, s, ro, rf, rl, rc, pa, pn, pc, ia, iN, ic⟩ := d
  obtain ⟨k2, t2, n2, f2, s2, ro2, rf2, rl2, rc2, pa2, pn2, pc2, ia2, iN2, ic2⟩ := e0
  obtain ⟨k3, t3, n3, f3, s3, ro3, rf3, rl3, rc3, pa3, pn3, pc3, ia3, iN3, ic3⟩ := x
  simp only [Dat.val] at *
  go_enter Tryz.func95, Tryz.ntmps95
  go_wp2_with (first
    | (go_at_call 121; refine (H.out _ (below3 w _ _ _)).mono ?_; rintro en w2 ⟨rfl, hb⟩
       have R2 := Lib.hid ((row_at2 w _ _ 131 zeroC).below hb (row_at2 w _ _ 131 zeroC).lt)
       have B2 := Lib.hid (below_more (below3 w _ _ _) hb (below3 w _ _ _).size)
       clear hb))
  obtain ⟨w3, RA, RB, HB, e⟩ : ∃ w3, Row w3 w2.heap.size 131 [.int .i64 k3, .string t3, .int .i64 n3, .int .u64 f3, .string s3, .int .i64 ro3, .int .i64 rf3, .int .i64 rl3, .int .i64 rc3, .slice pa3 pn3 pc3, .slice ia3 iN3 ic3] ∧ Row w3 (w.heap.size + 1 + 1) 131 zeroC ∧ Below w.heap.size w w3 ∧ w2.alloc (.cells #[.int .i64 k3, .string t3, .int .i64 n3, .int .u64 f3, .string s3, .int .i64 ro3, .int .i64 rf3, .int .i64 rl3, .int .i64 rc3, .slice pa3 pn3 pc3, .slice ia3 iN3 ic3] 131) = w3 :=
    ⟨_, Row.made w2 131 _, R2.out.alloc _, B2.out.alloc B2.out.size _, rfl⟩
  rw [e]
  clear e
  have hne : w2.heap.size ≠ w.heap.size + 1 + 1 := by have := R2.out.lt; omega
  have hne2 : w.heap.size + 1 + 1 ≠ w2.heap.size := fun h => hne h.symm
  obtain ⟨k1_0, k1_1, k1_2, k1_3, k1_4, k1_5, k1_6, k1_7, k1_8, k1_9, k1_10, k1f⟩ := row11 RA
  obtain ⟨k2_0, k2_1, k2_2, k2_3, k2_4, k2_5, k2_6, k2_7, k2_8, k2_9, k2_10, k2f⟩ := row11 RB
  replace RA := Lib.hid RA
  replace RB := Lib.hid RB
  replace HB := Lib.hid HB
  go_region
  all_goals go_wp2
  all_goals exact bodyPost_ret (ret_ct rfl _ _ (w.heap.size + 1 + 1) _ rfl (set11 RB.out).drew rfl) rfl ⟨rfl, below_drew (below11 HB.out (by omega))⟩

set_option maxRecDepth 200000 in
set_option maxHeartbeats 8000000 in
theorem bi_err (op : ByteArray) (h1 : (op.toList == [61, 61]) = false) (h2 : (op.toList == [33, 61]) = false) (d e0 : Dat) (w : World)
    (h : ∀ w1, Below w.heap.size w w1 → Calls Tryz.prog 121 #[.string op, d.val, e0.val] w1 fun e w' => (∃ g, e = .returned (.tuple #[zeroD.val, .iface 209 (.pointer (some ⟨g, 0, none⟩))])) ∧ Below w1.heap.size w1 w') :
    Calls Tryz.prog 95 #[.string op, d.val, e0.val] w fun e w' => e = .returned (.tuple #[zeroD.val, .bool false]) ∧ Below w.heap.size w w' := by
  have H := Lib.hid h
  clear h
  obtain ⟨k, t, n, f, s, ro, rf, rl, rc, pa, pn, pc, ia, iN, ic⟩ := d
  obtain ⟨k2, t2, n2, f2, s2, ro2, rf2, rl2, rc2, pa2, pn2, pc2, ia2, iN2, ic2⟩ := e0
  simp only [Dat.val, zeroD, mk] at *
  go_enter Tryz.func95, Tryz.ntmps95
  go_wp2_with (first
    | (go_at_call 121; refine (H.out _ (below3 w _ _ _)).mono ?_; rintro en w2 ⟨⟨g, rfl⟩, hb⟩
       have R2 := Lib.hid ((row_at2 w _ _ 131 zeroC).below hb (row_at2 w _ _ 131 zeroC).lt)
       have B2 := Lib.hid (below_more (below3 w _ _ _) hb (below3 w _ _ _).size)
       clear hb))
  obtain ⟨w3, RA, RB, HB, e⟩ : ∃ w3, Row w3 w2.heap.size 131 [.int .i64 0, .string ⟨#[]⟩, .int .i64 0, .int .u64 0, .string ⟨#[]⟩, .int .i64 0, .int .i64 0, .int .i64 0, .int .i64 0, .slice none 0 0, .slice none 0 0] ∧ Row w3 (w.heap.size + 1 + 1) 131 zeroC ∧ Below w.heap.size w w3 ∧ w2.alloc (.cells #[.int .i64 0, .string ⟨#[]⟩, .int .i64 0, .int .u64 0, .string ⟨#[]⟩, .int .i64 0, .int .i64 0, .int .i64 0, .int .i64 0, .slice none 0 0, .slice none 0 0] 131) = w3 :=
    ⟨_, Row.made w2 131 _, R2.out.alloc _, B2.out.alloc B2.out.size _, rfl⟩
  rw [e]
  clear e
  have hne : w2.heap.size ≠ w.heap.size + 1 + 1 := by have := R2.out.lt; omega
  have hne2 : w.heap.size + 1 + 1 ≠ w2.heap.size := fun h => hne h.symm
  obtain ⟨k1_0, k1_1, k1_2, k1_3, k1_4, k1_5, k1_6, k1_7, k1_8, k1_9, k1_10, k1f⟩ := row11 RA
  obtain ⟨k2_0, k2_1, k2_2, k2_3, k2_4, k2_5, k2_6, k2_7, k2_8, k2_9, k2_10, k2f⟩ := row11 RB
  replace RA := Lib.hid RA
  replace RB := Lib.hid RB
  replace HB := Lib.hid HB
  go_region
  all_goals go_wp2
  all_goals exact bodyPost_ret (ret_ct rfl _ _ (w.heap.size + 1 + 1) _ rfl (set11 RB.out).drew rfl) rfl ⟨rfl, below_drew (below11 HB.out (by omega))⟩

set_option maxRecDepth 200000 in
set_option maxHeartbeats 8000000 in
theorem bi_eqt (d e0 : Dat) (w : World)
    (h : ∀ w1, Below w.heap.size w w1 → Calls Tryz.prog 120 #[d.val, e0.val] w1 fun e w' => e = .returned (.tuple #[.bool true, .nilIface]) ∧ Below w1.heap.size w1 w') :
    Calls Tryz.prog 95 #[.string ⟨#[61, 61]⟩, d.val, e0.val] w fun e w' => e = .returned (.tuple #[(flagD 1).val, .bool true]) ∧ Below w.heap.size w w' := by
  have H := Lib.hid h
  clear h
  obtain ⟨k, t, n, f, s, ro, rf, rl, rc, pa, pn, pc, ia, iN, ic⟩ := d
  obtain ⟨k2, t2, n2, f2, s2, ro2, rf2, rl2, rc2, pa2, pn2, pc2, ia2, iN2, ic2⟩ := e0
  simp only [Dat.val, flagD, mk, sBool] at *
  go_enter Tryz.func95, Tryz.ntmps95
  go_wp2_with (first
    | (go_at_call 120; refine (H.out _ (below3 w _ _ _)).mono ?_; rintro en w2 ⟨rfl, hb⟩
       have R2 := Lib.hid ((row_at2 w _ _ 131 zeroC).below hb (row_at2 w _ _ 131 zeroC).lt)
       have B2 := Lib.hid (below_more (below3 w _ _ _) hb (below3 w _ _ _).size)
       clear hb))
  obtain ⟨w3, RA, RB, HB, e⟩ : ∃ w3, Row w3 w2.heap.size 131 [.int .i64 1, .string ⟨#[98, 111, 111, 108]⟩, .int .i64 1, .int .u64 0, .string ⟨#[]⟩, .int .i64 0, .int .i64 0, .int .i64 0, .int .i64 0, .slice none 0 0, .slice none 0 0] ∧ Row w3 (w.heap.size + 1 + 1) 131 zeroC ∧ Below w.heap.size w w3 ∧ w2.alloc (.cells #[.int .i64 1, .string ⟨#[98, 111, 111, 108]⟩, .int .i64 1, .int .u64 0, .string ⟨#[]⟩, .int .i64 0, .int .i64 0, .int .i64 0, .int .i64 0, .slice none 0 0, .slice none 0 0] 131) = w3 :=
    ⟨_, Row.made w2 131 _, R2.out.alloc _, B2.out.alloc B2.out.size _, rfl⟩
  rw [e]
  clear e
  have hne : w2.heap.size ≠ w.heap.size + 1 + 1 := by have := R2.out.lt; omega
  have hne2 : w.heap.size + 1 + 1 ≠ w2.heap.size := fun h => hne h.symm
  obtain ⟨k1_0, k1_1, k1_2, k1_3, k1_4, k1_5, k1_6, k1_7, k1_8, k1_9, k1_10, k1f⟩ := row11 RA
  obtain ⟨k2_0, k2_1, k2_2, k2_3, k2_4, k2_5, k2_6, k2_7, k2_8, k2_9, k2_10, k2f⟩ := row11 RB
  replace RA := Lib.hid RA
  replace RB := Lib.hid RB
  replace HB := Lib.hid HB
  go_region
  all_goals go_wp2
  all_goals exact bodyPost_ret (ret_ct rfl _ _ (w.heap.size + 1 + 1) _ rfl (set11 RB.out).drew rfl) rfl ⟨rfl, below_drew (below11 HB.out (by omega))⟩

set_option maxRecDepth 200000 in
set_option maxHeartbeats 8000000 in
theorem bi_eqf (d e0 : Dat) (w : World)
    (h : ∀ w1, Below w.heap.size w w1 → Calls Tryz.prog 120 #[d.val, e0.val] w1 fun e w' => e = .returned (.tuple #[.bool false, .nilIface]) ∧ Below w1.heap.size w1 w') :
    Calls Tryz.prog 95 #[.string ⟨#[61, 61]⟩, d.val, e0.val] w fun e w' => e = .returned (.tuple #[(flagD 0).val, .bool true]) ∧ Below w.heap.size w w' := by
  have H := Lib.hid h
  clear h
  obtain ⟨k, t, n, f, s, ro, rf, rl, rc, pa, pn, pc, ia, iN, ic⟩ := d
  obtain ⟨k2, t2, n2, f2, s2, ro2, rf2, rl2, rc2, pa2, pn2, pc2, ia2, iN2, ic2⟩ := e0
  simp only [Dat.val, flagD, mk, sBool] at *
  go_enter Tryz.func95, Tryz.ntmps95
  go_wp2_with (first
    | (go_at_call 120; refine (H.out _ (below3 w _ _ _)).mono ?_; rintro en w2 ⟨rfl, hb⟩
       have R2 := Lib.hid ((row_at2 w _ _ 131 zeroC).below hb (row_at2 w _ _ 131 zeroC).lt)
       have B2 := Lib.hid (below_more (below3 w _ _ _) hb (below3 w _ _ _).size)
       clear hb))
  obtain ⟨w3, RA, RB, HB, e⟩ : ∃ w3, Row w3 w2.heap.size 131 [.int .i64 1, .string ⟨#[98, 111, 111, 108]⟩, .int .i64 0, .int .u64 0, .string ⟨#[]⟩, .int .i64 0, .int .i64 0, .int .i64 0, .int .i64 0, .slice none 0 0, .slice none 0 0] ∧ Row w3 (w.heap.size + 1 + 1) 131 zeroC ∧ Below w.heap.size w w3 ∧ w2.alloc (.cells #[.int .i64 1, .string ⟨#[98, 111, 111, 108]⟩, .int .i64 0, .int .u64 0, .string ⟨#[]⟩, .int .i64 0, .int .i64 0, .int .i64 0, .int .i64 0, .slice none 0 0, .slice none 0 0] 131) = w3 :=
    ⟨_, Row.made w2 131 _, R2.out.alloc _, B2.out.alloc B2.out.size _, rfl⟩
  rw [e]
  clear e
  have hne : w2.heap.size ≠ w.heap.size + 1 + 1 := by have := R2.out.lt; omega
  have hne2 : w.heap.size + 1 + 1 ≠ w2.heap.size := fun h => hne h.symm
  obtain ⟨k1_0, k1_1, k1_2, k1_3, k1_4, k1_5, k1_6, k1_7, k1_8, k1_9, k1_10, k1f⟩ := row11 RA
  obtain ⟨k2_0, k2_1, k2_2, k2_3, k2_4, k2_5, k2_6, k2_7, k2_8, k2_9, k2_10, k2f⟩ := row11 RB
  replace RA := Lib.hid RA
  replace RB := Lib.hid RB
  replace HB := Lib.hid HB
  go_region
  all_goals go_wp2
  all_goals exact bodyPost_ret (ret_ct rfl _ _ (w.heap.size + 1 + 1) _ rfl (set11 RB.out).drew rfl) rfl ⟨rfl, below_drew (below11 HB.out (by omega))⟩

set_option maxRecDepth 200000 in
set_option maxHeartbeats 8000000 in
theorem bi_net (d e0 : Dat) (w : World)
    (h : ∀ w1, Below w.heap.size w w1 → Calls Tryz.prog 120 #[d.val, e0.val] w1 fun e w' => e = .returned (.tuple #[.bool true, .nilIface]) ∧ Below w1.heap.size w1 w') :
    Calls Tryz.prog 95 #[.string ⟨#[33, 61]⟩, d.val, e0.val] w fun e w' => e = .returned (.tuple #[(flagD 0).val, .bool true]) ∧ Below w.heap.size w w' := by
  have H := Lib.hid h
  clear h
  obtain ⟨k, t, n, f, s, ro, rf, rl, rc, pa, pn, pc, ia, iN, ic⟩ := d
  obtain ⟨k2, t2, n2, f2, s2, ro2, rf2, rl2, rc2, pa2, pn2, pc2, ia2, iN2, ic2⟩ := e0
  simp only [Dat.val, flagD, mk, sBool] at *
  go_enter Tryz.func95, Tryz.ntmps95
  go_wp2_with (first
    | (go_at_call 120; refine (H.out _ (below3 w _ _ _)).mono ?_; rintro en w2 ⟨rfl, hb⟩
       have R2 := Lib.hid ((row_at2 w _ _ 131 zeroC).below hb (row_at2 w _ _ 131 zeroC).lt)
       have B2 := Lib.hid (below_more (below3 w _ _ _) hb (below3 w _ _ _).size)
       clear hb))
  obtain ⟨w3, RA, RB, HB, e⟩ : ∃ w3, Row w3 w2.heap.size 131 [.int .i64 1, .string ⟨#[98, 111, 111, 108]⟩, .int .i64 0, .int .u64 0, .string ⟨#[]⟩, .int .i64 0, .int .i64 0, .int .i64 0, .int .i64 0, .slice none 0 0, .slice none 0 0] ∧ Row w3 (w.heap.size + 1 + 1) 131 zeroC ∧ Below w.heap.size w w3 ∧ w2.alloc (.cells #[.int .i64 1, .string ⟨#[98, 111, 111, 108]⟩, .int .i64 0, .int .u64 0, .string ⟨#[]⟩, .int .i64 0, .int .i64 0, .int .i64 0, .int .i64 0, .slice none 0 0, .slice none 0 0] 131) = w3 :=
    ⟨_, Row.made w2 131 _, R2.out.alloc _, B2.out.alloc B2.out.size _, rfl⟩
  rw [e]
  clear e
  have hne : w2.heap.size ≠ w.heap.size + 1 + 1 := by have := R2.out.lt; omega
  have hne2 : w.heap.size + 1 + 1 ≠ w2.heap.size := fun h => hne h.symm
  obtain ⟨k1_0, k1_1, k1_2, k1_3, k1_4, k1_5, k1_6, k1_7, k1_8, k1_9, k1_10, k1f⟩ := row11 RA
  obtain ⟨k2_0, k2_1, k2_2, k2_3, k2_4, k2_5, k2_6, k2_7, k2_8, k2_9, k2_10, k2f⟩ := row11 RB
  replace RA := Lib.hid RA
  replace RB := Lib.hid RB
  replace HB := Lib.hid HB
  go_region
  all_goals go_wp2
  all_goals exact bodyPost_ret (ret_ct rfl _ _ (w.heap.size + 1 + 1) _ rfl (set11 RB.out).drew rfl) rfl ⟨rfl, below_drew (below11 HB.out (by omega))⟩

set_option maxRecDepth 200000 in
set_option maxHeartbeats 8000000 in
theorem bi_nef (d e0 : Dat) (w : World)
    (h : ∀ w1, Below w.heap.size w w1 → Calls Tryz.prog 120 #[d.val, e0.val] w1 fun e w' => e = .returned (.tuple #[.bool false, .nilIface]) ∧ Below w1.heap.size w1 w') :
    Calls Tryz.prog 95 #[.string ⟨#[33, 61]⟩, d.val, e0.val] w fun e w' => e = .returned (.tuple #[(flagD 1).val, .bool true]) ∧ Below w.heap.size w w' := by
  have H := Lib.hid h
  clear h
  obtain ⟨k, t, n, f, s, ro, rf, rl, rc, pa, pn, pc, ia, iN, ic⟩ := d
  obtain ⟨k2, t2, n2, f2, s2, ro2, rf2, rl2, rc2, pa2, pn2, pc2, ia2, iN2, ic2⟩ := e0
  simp only [Dat.val, flagD, mk, sBool] at *
  go_enter Tryz.func95, Tryz.ntmps95
  go_wp2_with (first
    | (go_at_call 120; refine (H.out _ (below3 w _ _ _)).mono ?_; rintro en w2 ⟨rfl, hb⟩
       have R2 := Lib.hid ((row_at2 w _ _ 131 zeroC).below hb (row_at2 w _ _ 131 zeroC).lt)
       have B2 := Lib.hid (below_more (below3 w _ _ _) hb (below3 w _ _ _).size)
       clear hb))
  obtain ⟨w3, RA, RB, HB, e⟩ : ∃ w3, Row w3 w2.heap.size 131 [.int .i64 1, .string ⟨#[98, 111, 111, 108]⟩, .int .i64 1, .int .u64 0, .string ⟨#[]⟩, .int .i64 0, .int .i64 0, .int .i64 0, .int .i64 0, .slice none 0 0, .slice none 0 0] ∧ Row w3 (w.heap.size + 1 + 1) 131 zeroC ∧ Below w.heap.size w w3 ∧ w2.alloc (.cells #[.int .i64 1, .string ⟨#[98, 111, 111, 108]⟩, .int .i64 1, .int .u64 0, .string ⟨#[]⟩, .int .i64 0, .int .i64 0, .int .i64 0, .int .i64 0, .slice none 0 0, .slice none 0 0] 131) = w3 :=
    ⟨_, Row.made w2 131 _, R2.out.alloc _, B2.out.alloc B2.out.size _, rfl⟩
  rw [e]
  clear e
  have hne : w2.heap.size ≠ w.heap.size + 1 + 1 := by have := R2.out.lt; omega
  have hne2 : w.heap.size + 1 + 1 ≠ w2.heap.size := fun h => hne h.symm
  obtain ⟨k1_0, k1_1, k1_2, k1_3, k1_4, k1_5, k1_6, k1_7, k1_8, k1_9, k1_10, k1f⟩ := row11 RA
  obtain ⟨k2_0, k2_1, k2_2, k2_3, k2_4, k2_5, k2_6, k2_7, k2_8, k2_9, k2_10, k2f⟩ := row11 RB
  replace RA := Lib.hid RA
  replace RB := Lib.hid RB
  replace HB := Lib.hid HB
  go_region
  all_goals go_wp2
  all_goals exact bodyPost_ret (ret_ct rfl _ _ (w.heap.size + 1 + 1) _ rfl (set11 RB.out).drew rfl) rfl ⟨rfl, below_drew (below11 HB.out (by omega))⟩

theorem biOf_num (op : ByteArray) (b a : Cst) (h1 : op.toList ≠ [61, 61]) (h2 : op.toList ≠ [33, 61]) : biOf op b a = numBi op b a := by
  unfold biOf
  rw [if_neg h1, if_neg h2]
  cases b <;> cases a <;> rfl
/-- The contract of peep.binary. -/
theorem binary_walk (op : ByteArray) (hs : op.size ≤ 2000000) (b a : Cst) (hb : CstOk b) (ha : CstOk a) (w : World) (G : GlobP w) (GO : OwnG w) : Calls Tryz.prog 95 #[.string op, (datOf b).val, (datOf a).val] w (PeepPost (biOf op b a) w) := by
  by_cases h1 : op.toList = [61, 61]
  · obtain rfl := bytes_are h1
    have H := fun (w1 : World) (hb1 : Below w.heap.size w w1) => val_equal_of b a hb ha w1 (GO.below hb1)
    cases hr : eqOf b a
    · rw [hr] at H
      exact (bi_eqf _ _ w H).mono fun e w' h => peep_some (d := .flag 0) (by unfold biOf; rw [if_pos h1, hr]; rfl) h.1 h.2
    · rw [hr] at H
      exact (bi_eqt _ _ w H).mono fun e w' h => peep_some (d := .flag 1) (by unfold biOf; rw [if_pos h1, hr]; rfl) h.1 h.2
  · by_cases h2 : op.toList = [33, 61]
    · obtain rfl := bytes_are h2
      have H := fun (w1 : World) (hb1 : Below w.heap.size w w1) => val_equal_of b a hb ha w1 (GO.below hb1)
      cases hr : eqOf b a
      · rw [hr] at H
        exact (bi_nef _ _ w H).mono fun e w' h => peep_some (d := .flag 1) (by unfold biOf; rw [if_neg h1, if_pos h2, hr]; rfl) h.1 h.2
      · rw [hr] at H
        exact (bi_net _ _ w H).mono fun e w' h => peep_some (d := .flag 0) (by unfold biOf; rw [if_neg h1, if_pos h2, hr]; rfl) h.1 h.2
    · have hu := biOf_num op b a h1 h2
      have H := fun (w1 : World) (hb1 : Below w.heap.size w w1) => num_binary op hs b a ha w1 (G.below hb1)
      cases hr : numBi op b a with
      | some d =>
        rw [hr] at H
        exact (bi_ok op (bytes_no h1) (bytes_no h2) _ _ (datOf d) w H).mono fun e w' h => peep_some (hu.trans hr) h.1 h.2
      | none =>
        rw [hr] at H
        exact (bi_err op (bytes_no h1) (bytes_no h2) _ _ w H).mono fun e w' h => peep_none (hu.trans hr) _ h.1 h.2
end Go.Proofs.YtmecmlpoallpcaaGreatDoor

/- peep.folder: what stays in memory from call to call; stores into it. No walk. -/
namespace Go.Proofs.YtmecmlpoallpcaaGreatDoor
set_option linter.unusedVariables false
open Go.RowKit Go.Proofs.PeepPlain

/-- The folder in memory, and nothing written that was there ahead of all. -/
structure St (w0 : World) (B0 Bk gF gl cl gm go : Nat) (S : FSt) (w : World) : Prop where
  at_ : ∃ v, FoldAt w Bk gF gl cl gm go v S
  below : Below B0 w0 w
  low : B0 ≤ gF ∧ B0 ≤ gl ∧ B0 ≤ gm ∧ B0 ≤ go ∧ B0 ≤ Bk
section
variable {w0 w w' : World} {B0 Bk gF gl cl gm go : Nat} {S : FSt}
theorem St.next (h : St w0 B0 Bk gF gl cl gm go S w) (hb : Below w.heap.size w w') : St w0 B0 Bk gF gl cl gm go S w' := by
  obtain ⟨v, F⟩ := h.at_
  exact ⟨⟨v, F.below hb⟩, below_more h.below hb (Nat.le_trans h.low.2.2.2.2 F.fl.2.2.2.2), h.low⟩
theorem St.alloc (h : St w0 B0 Bk gF gl cl gm go S w) (X : Obj) : St w0 B0 Bk gF gl cl gm go S (w.alloc X) := h.next (below1 w X)
theorem St.size (h : St w0 B0 Bk gF gl cl gm go S w) : gF < w.heap.size ∧ gl < w.heap.size ∧ gm < w.heap.size ∧ go < w.heap.size ∧ B0 ≤ w.heap.size := by
  obtain ⟨v, F⟩ := h.at_
  have h1 := F.row.lt
  have h2 := F.code.lt
  have h3 := F.mark.lt
  have h4 := F.out.lt
  have h5 := h.low
  exact ⟨h1, h2, h3, h4, by omega⟩
theorem St.row (h : St w0 B0 Bk gF gl cl gm go S w) : w.cell? ⟨gF, 0, none⟩ = some (.slice (some ⟨gl, 0, none⟩) S.l.length cl) ∧ w.cell? ⟨gF, 1, none⟩ = some (.slice (some ⟨gm, 0, none⟩) S.l.length S.l.length) ∧ w.cell? ⟨gF, 2, none⟩ = some (.slice (some ⟨go, 0, none⟩) S.l.length S.l.length) := by
  obtain ⟨v, F⟩ := h.at_
  exact ⟨F.row.cell 0, F.row.cell 1, F.row.cell 2⟩
theorem St.ins (h : St w0 B0 Bk gF gl cl gm go S w) {i : Nat} (hi : i < S.l.length) : w.cell? ⟨gl, i * 5, none⟩ = some (.int .i64 (S.l.getD i default).op) ∧ w.cell? ⟨gl, i * 5 + 1, none⟩ = some (.int .i64 (S.l.getD i default).a) ∧ w.cell? ⟨gl, i * 5 + 2, none⟩ = some (.int .i64 (S.l.getD i default).b) ∧ w.cell? ⟨gl, i * 5 + 3, none⟩ = some (.string (S.l.getD i default).text) ∧ w.cell? ⟨gl, i * 5 + 4, none⟩ = some (.int .i64 (S.l.getD i default).pos) := by
  obtain ⟨v, F⟩ := h.at_
  have := F.code.at_ hi
  rw [ins_get hi]
  exact this
theorem St.free (h : St w0 B0 Bk gF gl cl gm go S w) (i : Nat) : w.frozen? ⟨gl, i, none⟩ = false := by
  obtain ⟨v, F⟩ := h.at_
  exact F.code.frozen i
theorem St.bit (h : St w0 B0 Bk gF gl cl gm go S w) {i : Nat} (hi : i < S.l.length) : w.cell? ⟨gm, i, none⟩ = some (.bool (S.mark.getD i false)) ∧ w.frozen? ⟨gm, i, none⟩ = false := by
  obtain ⟨v, F⟩ := h.at_
  exact ⟨bool_at F.mark (by rw [F.lenm]; exact hi), F.mark.free i⟩
theorem St.ks (h : St w0 B0 Bk gF gl cl gm go S w) : ∀ k ∈ S.ks, k < S.l.length := by
  obtain ⟨v, F⟩ := h.at_
  exact F.ks
theorem St.lens (h : St w0 B0 Bk gF gl cl gm go S w) : S.mark.length = S.l.length ∧ S.out.length = S.l.length := by
  obtain ⟨v, F⟩ := h.at_
  exact ⟨F.lenm, F.leno⟩
theorem last_st (h : St w0 B0 Bk gF gl cl gm go S w) (hl : S.l.length ≤ 100000) (n : Nat) (hn : n ≤ 2) (plain : Bool) :
    Calls Tryz.prog 90 #[.pointer (some ⟨gF, 0, none⟩), .int .i64 n, .bool plain] w fun e w' => e = .returned (lastV S n plain) ∧ St w0 B0 Bk gF gl cl gm go S w' := by
  obtain ⟨v, F⟩ := h.at_
  refine (last_walk w Bk gF gl cl gm go v S F hl n hn plain).mono ?_
  rintro e w' ⟨rfl, q, rfl⟩
  exact ⟨rfl, h.next (below_drewN (Below.refl _ _) q)⟩
theorem drop_st (h : St w0 B0 Bk gF gl cl gm go S w) (hl : S.l.length ≤ 100000) (n : Nat) (hn : n ≤ S.ks.length) :
    Calls Tryz.prog 94 #[.pointer (some ⟨gF, 0, none⟩), .int .i64 n] w fun e w' => e = .returned (.tuple #[]) ∧ St w0 B0 Bk gF gl cl gm go (dropN n S) w' := by
  obtain ⟨v, F⟩ := h.at_
  refine (drop_walk w Bk B0 gF gl cl gm go v S F ⟨h.low.1, h.low.2.2.2.1⟩ hl n hn).mono ?_
  rintro e w' ⟨rfl, F2, hb⟩
  exact ⟨rfl, F2, h.below.trans hb, h.low⟩
theorem five_sets (old : List Value) (i : Nat) (a b c d e : Value) (h : i + 5 ≤ old.length) :
    ((((old.set i a).set (i + 1) b).set (i + 2) c).set (i + 3) d).set (i + 4) e = old.take i ++ [a, b, c, d, e] ++ old.drop (i + 5) := by
  induction i generalizing old with
  | zero =>
    match old, h with
    | o0 :: o1 :: o2 :: o3 :: o4 :: r, _ => rfl
  | succ i ih =>
    match old, h with
    | o :: r, h =>
      have hr : i + 5 ≤ r.length := by simp at h; omega
      have := ih r hr
      simp only [List.set_cons_succ, show i + 1 + 1 = (i + 1) + 1 from rfl, show i + 1 + 2 = (i + 2) + 1 from rfl, show i + 1 + 3 = (i + 3) + 1 from rfl, show i + 1 + 4 = (i + 4) + 1 from rfl, show i + 1 + 5 = (i + 5) + 1 from rfl, List.take_succ_cons, List.drop_succ_cons, List.cons_append]
      rw [this]
/-- Five stores into the code: an instruction. -/
def put5 (w : World) (g i : Nat) (x : Ins) : World :=
  ((((w.setCell ⟨g, i, none⟩ (.int .i64 x.op)).setCell ⟨g, i + 1, none⟩ (.int .i64 x.a)).setCell ⟨g, i + 2, none⟩ (.int .i64 x.b)).setCell ⟨g, i + 3, none⟩ (.string x.text)).setCell ⟨g, i + 4, none⟩ (.int .i64 x.pos)
theorem put5_far (w : World) (g i b : Nat) (x : Ins) (hb : b ≠ g) : (put5 w g i x).heap[b]? = w.heap[b]? := by
  unfold put5
  rw [heap_setCell_other _ _ _ _ (by exact hb), heap_setCell_other _ _ _ _ (by exact hb), heap_setCell_other _ _ _ _ (by exact hb), heap_setCell_other _ _ _ _ (by exact hb), heap_setCell_other _ _ _ _ (by exact hb)]
theorem put5_row {w : World} {g c k : Nat} {l : List Ins} (h : InsRow w g c l) (hk : k < l.length) (x : Ins) : InsRow (put5 w g (k * 5) x) g c (l.set k x) := by
  obtain ⟨old, h1, h2, h3⟩ := h.set_ hk x
  refine h3 _ ?_
  have e := five_sets old (k * 5) (.int .i64 x.op) (.int .i64 x.a) (.int .i64 x.b) (.string x.text) (.int .i64 x.pos) h2
  show Row _ g 50 (old.take (k * 5) ++ [.int .i64 x.op, .int .i64 x.a, .int .i64 x.b, .string x.text, .int .i64 x.pos] ++ old.drop (k * 5 + 5))
  rw [← e]
  exact ((((h1.set _ _).set _ _).set _ _).set _ _).set _ _
theorem put5_below {a w : World} {g i B : Nat} {x : Ins} (h : Below B a w) (hg : B ≤ g) : Below B a (put5 w g i x) :=
  ((((h.setCell hg _).setCell hg _).setCell hg _).setCell hg _).setCell hg _
theorem far5 {w : World} {g i : Nat} {v0 v1 v2 v3 v4 : Value} {b j : Nat} {u : Value} (hb : b ≠ g) (h : w.cell? ⟨b, j, none⟩ = some u) :
    (((((w.setCell ⟨g, i, none⟩ v0).setCell ⟨g, i + 1, none⟩ v1).setCell ⟨g, i + 2, none⟩ v2).setCell ⟨g, i + 3, none⟩ v3).setCell ⟨g, i + 4, none⟩ v4).cell? ⟨b, j, none⟩ = some u := by
  rw [World.cell?_of_block (a := ⟨b, j, none⟩) (show _ = w.heap[b]? from by
    rw [heap_setCell_other _ _ _ _ (by exact hb), heap_setCell_other _ _ _ _ (by exact hb), heap_setCell_other _ _ _ _ (by exact hb), heap_setCell_other _ _ _ _ (by exact hb), heap_setCell_other _ _ _ _ (by exact hb)])]
  exact h
theorem pos5 {w : World} {g c k : Nat} {l : List Ins} (hr : InsRow w g c l) (hk : k < l.length) (op a b p : Int) (t : ByteArray) :
    (((((w.setCell ⟨g, k * 5, none⟩ (.int .i64 op)).setCell ⟨g, k * 5 + 1, none⟩ (.int .i64 a)).setCell ⟨g, k * 5 + 2, none⟩ (.int .i64 b)).setCell ⟨g, k * 5 + 3, none⟩ (.string t)).setCell ⟨g, k * 5 + 4, none⟩ (.int .i64 p)).cell? ⟨g, k * 5 + 4, none⟩ = some (.int .i64 p) := by
  have h := (put5_row hr hk ⟨op, a, b, t, p⟩).at_ (i := k) (by simpa using hk)
  rw [List.getElem_set_self] at h
  exact h.2.2.2.2
theorem St.pos5 (h : St w0 B0 Bk gF gl cl gm go S w) {k : Nat} (hk : k < S.l.length) (op a b p : Int) (t : ByteArray) :
    (((((w.setCell ⟨gl, k * 5, none⟩ (.int .i64 op)).setCell ⟨gl, k * 5 + 1, none⟩ (.int .i64 a)).setCell ⟨gl, k * 5 + 2, none⟩ (.int .i64 b)).setCell ⟨gl, k * 5 + 3, none⟩ (.string t)).setCell ⟨gl, k * 5 + 4, none⟩ (.int .i64 p)).cell? ⟨gl, k * 5 + 4, none⟩ = some (.int .i64 p) := by
  obtain ⟨v, F⟩ := h.at_
  exact YtmecmlpoallpcaaGreatDoor.pos5 F.code hk op a b p t
theorem St.put (h : St w0 B0 Bk gF gl cl gm go S w) {k : Nat} (hk : k < S.l.length) (x : Ins) : St w0 B0 Bk gF gl cl gm go ⟨S.l.set k x, S.mark, S.out, S.ks⟩ (put5 w gl (k * 5) x) := by
  obtain ⟨v, F⟩ := h.at_
  obtain ⟨n1, n2, n3, n4, n5, n6⟩ := F.ne
  have hs : (put5 w gl (k * 5) x).heap.size = w.heap.size := by simp [put5, World.setCell]
  refine ⟨⟨v, ?_, put5_row F.code hk x, ?_, ?_, ?_, ?_, ?_, ?_, ?_, ?_, F.ne⟩, put5_below h.below h.low.2.1, h.low⟩
  · show Row _ gF 93 [.slice (some ⟨gl, 0, none⟩) (S.l.set k x).length cl, .slice (some ⟨gm, 0, none⟩) (S.l.set k x).length (S.l.set k x).length, .slice (some ⟨go, 0, none⟩) (S.l.set k x).length (S.l.set k x).length, v]
    rw [List.length_set]
    exact (put5_far w gl (k * 5) gF x n1).trans F.row
  · exact (put5_far w gl (k * 5) gm x (Ne.symm n4)).trans F.mark
  · exact (put5_far w gl (k * 5) go x (Ne.symm n5)).trans F.out
  · exact own_same F.kept fun b hb => put5_far w gl (k * 5) b x (by have := (F.kept.lt hb).1; have := F.fl; omega)
  · simpa using F.lenm
  · simpa using F.leno
  · intro j hj
    have := F.ks j hj
    simpa using this
  · simpa using F.few
  · have := F.fl
    rw [hs]
    exact this
theorem St.mark_ (h : St w0 B0 Bk gF gl cl gm go S w) (i : Nat) (b : Bool) : St w0 B0 Bk gF gl cl gm go ⟨S.l, S.mark.set i b, S.out, S.ks⟩ (w.setCell ⟨gm, i, none⟩ (.bool b)) := by
  obtain ⟨v, F⟩ := h.at_
  obtain ⟨n1, n2, n3, n4, n5, n6⟩ := F.ne
  have hfar : ∀ c, c ≠ gm → (w.setCell ⟨gm, i, none⟩ (.bool b)).heap[c]? = w.heap[c]? := fun c hc => heap_setCell_other _ _ _ _ (by exact hc)
  have hs : (w.setCell ⟨gm, i, none⟩ (.bool b)).heap.size = w.heap.size := by simp [World.setCell]
  refine ⟨⟨v, (hfar gF n2).trans F.row, F.code.far (hfar gl n4), ?_, (hfar go (Ne.symm n6)).trans F.out, own_same F.kept fun c hc => hfar c (by have := (F.kept.lt hc).1; have := F.fl; omega), by simpa using F.lenm, F.leno, F.ks, F.few, by rw [hs]; exact F.fl, F.ne⟩, h.below.setCell h.low.2.2.1 _, h.low⟩
  rw [boolC_set]
  exact F.mark.set i _
theorem St.apart (h : St w0 B0 Bk gF gl cl gm go S w) : gF ≠ gl := by
  obtain ⟨v, F⟩ := h.at_
  exact F.ne.1
theorem St.drew (h : St w0 B0 Bk gF gl cl gm go S w) : St w0 B0 Bk gF gl cl gm go S w.drew := h.next (below_drew (Below.refl _ _))
end
end Go.Proofs.YtmecmlpoallpcaaGreatDoor
