/- guiselaw6.same of data with paths; lent: a datum whose path is the front of a longer one; back: its owner writes over it. Condition: the path is not long. -/
import Derived.Test.YtehakhplglhkdaaGreatDoorConvA
import Derived.Deep.QuietTactic
import Derived.BigQuiet
namespace Go.Proofs.YtehakhplglhkdaaGreatDoor
set_option linter.unusedVariables false
open Go.RowKit

theorem int_lt0 {k n : Nat} (h : k < n) : (0 : Int) ≤ (k : Int) ∧ (k : Int) < (n : Int) := by omega
theorem IntsAt.drewN {w : World} {A : Option Addr} {l : List Int} (h : IntsAt w A l) (n : Nat) : IntsAt (w.drewN n) A l := h
set_option maxRecDepth 200000 in
set_option maxHeartbeats 4000000 in
theorem same_path (k n f ro rf rl rc : Int) (t s : ByteArray) (A B : Option Addr) (c d : Nat) (l : List Int) (w : World) (hA : IntsAt w A l) (hB : IntsAt w B l) (hl : l.length ≤ 17592186043904) :
    Calls Tryz.prog 14 #[(Dat.mk k t n f s ro rf rl rc A l.length c none 0 0).val, (Dat.mk k t n f s ro rf rl rc B l.length d none 0 0).val] w fun e w' => e = .returned (.bool true) ∧ Below w.heap.size w w' := by
  have HA := Lib.hid hA
  have HB := Lib.hid hB
  clear hA hB
  unfold Dat.val
  go_enter Tryz.func14, Tryz.ntmps14
  go_wp2_with fail
  go_loopw [4, 7] (fun z v wr => ∃ k : Nat, v = .int .i64 k ∧ k ≤ l.length ∧ Hid (wr.cell? ⟨w.heap.size + 1 + 1, 4, none⟩ = some (.slice A l.length c)) ∧ Hid (wr.cell? ⟨w.heap.size + 1 + 1 + 1, 4, none⟩ = some (.slice B l.length d)) ∧ Hid (IntsAt wr A l) ∧ Hid (IntsAt wr B l) ∧ Hid (Below w.heap.size w wr)) (fun _ v _ => l.length - (intOf v).toNat)
  case atStart => exact ⟨0, rfl, Nat.zero_le _, ((row_at2 w _ _ 25 [.int .i64 ro, .int .i64 rf, .int .i64 rl, .int .i64 rc, .slice A l.length c]).alloc _).cell 4, (row_at3 w _ _ _ 25 [.int .i64 ro, .int .i64 rf, .int .i64 rl, .int .i64 rc, .slice B l.length d]).cell 4, HA.out.below (below4 w _ _ _ _), HB.out.below (below4 w _ _ _ _), below4 w _ _ _ _⟩
  case round =>
    clear HA HB
    rename World => w2
    obtain ⟨i, rfl, hi, C1, C2, HA, HB, HL⟩ := hrel
    have c1 := C1.out
    have c2 := C2.out
    by_cases hlt : i < l.length
    · obtain ⟨ga, oa, rfl, hga, hca⟩ := HA.out.at_ (by omega)
      obtain ⟨gb, ob, rfl, hgb, hcb⟩ := HB.out.at_ (by omega)
      have f1 := hca i hlt
      have f2 := hcb i hlt
      have hb := int_lt0 hlt
      clear hca hcb hga hgb
      go_wp2_with fail
      go_quiet (fail)
      go_wp2
      go_roundw
      case rel => exact ⟨i + 1, by go_num, by omega, C1, C2, HA, HB, below_drewN HL.out _⟩
      case measure => simp [intOf]; omega
    · obtain rfl : i = l.length := by omega
      go_wp2_with fail
      go_ret
      exact ⟨rfl, HL.out⟩

/-! ### lent -/
theorem make_ints3 (n : Nat) (h : n ≤ 17592186044000) (w : World) : ∃ Z : List Value, Z.length = n ∧ (Instr.makeSlice 23 (.int .i64 (n : Int)) (.int .i64 (n : Int))).run Tryz.prog w = .ok (.slice (some ⟨w.heap.size, 0, none⟩) n n) (w.alloc (.cells Z.toArray 3)) := by
  obtain ⟨i0, hi, hz0, hz1, hz2⟩ := info_parts info3
  have hb : (i0.bytes : Int) * (n : Int) ≤ 281474976710656 := by rw [hz2]; omega
  have := run_make (P := Tryz.prog) w 23 3 i0 _ Tryz.underlying23 hi hz0 .i64 .i64 n n (by omega) (by omega) hb (by omega)
  refine ⟨(madeCells (Value.int .i64 0).cells (n * i0.size)).toList, by simp [size_madeCells, hz1], ?_⟩
  simpa using this
theorem copy_in {ops : Array Oper} {rest : List Oper} {o : Oper} {a : Act} {Q : Exit → Act → World → Prop} (d s : Operand) (g N : Nat) (A : Option Addr) (c : Nat) (l : List Int) (cur : List Value) (w : World)
    (hgd : o.guard = none) (ho : o.op = .call { callee := .builtin .copy, args := #[d, s], argTypes := #[23, 23] })
    (hd : a.eval d = .slice (some ⟨g, 0, none⟩) N N) (hs : a.eval s = .slice A l.length c) (hr : Row w g 3 cur) (hA : IntsAt w A l) (hle : l.length ≤ N) (hcl : cur.length = N)
    (h : ∀ w', Row w' g 3 (intC l ++ cur.drop l.length) → (∀ B, B ≤ g → Below B w w') → wpList Tryz.prog ops Q rest (a.put o.dst (.int .i64 (l.length : Int))) w') : wpList Tryz.prog ops Q (o :: rest) a w := by
  obtain ⟨i3, hi, hz, hs3, hy⟩ := info_parts info3
  have hmin : Nat.min l.length N = l.length := Nat.min_eq_left hle
  refine wpList_plain hgd fun _ hK => ?_
  rcases Nat.eq_zero_or_pos l.length with h0 | h0
  · have hl0 : l = [] := List.eq_nil_of_length_eq_zero h0
    subst hl0
    have hh := h w (by simpa [intC] using hr) (fun B _ => Below.refl _ _)
    have hl : ∀ a : Addr, (loadCells a 0).run Tryz.prog w = .ok #[] w := fun a => by
      have := run_loadCells_list (P := Tryz.prog) w a [] (by simp)
      simpa using this
    have hrun : (Builtin.copy_ #[23, 23] o.type #[.slice (some ⟨g, 0, none⟩) N N, .slice A 0 c]).run Tryz.prog w = .ok (.int .i64 ((0 : Nat) : Int)) w := by
      cases A <;> simp [Builtin.copy_, run_underlying Tryz.underlying23, Builtin.lenOf, Builtin.firstCells, sizeOf, typeInfo, hi, hl, storeCells, goInt]
    unfold Oper.wp execOp
    simp only [List.length_nil] at hs hh
    simp only [ho, resolve, invoke, builtin, Sem.run_bind, Sem.run_pure, Result.andThen_ok, List.map_toArray, List.map_cons, List.map_nil, hd, hs, hrun]
    exact hK _ _ hh
  · obtain ⟨b, off, rfl, hb, hc⟩ := hA (by simpa using h0)
    have hld := run_loadCells_list (P := Tryz.prog) w ⟨b, off, none⟩ (intC l) (fun j v hv => by rw [Addr.add_lit]; exact hc j v hv)
    have hst := run_storeCells_at Tryz.prog g 0 3 (intC l) 0 cur.toArray w hr (by simp [intC_length]; omega) (intC_one l)
    have hh := h _ (hr.turn (intC l ++ cur.drop l.length)) (fun B hB => below_setRow (Below.refl _ _) hB _)
    rw [intC_length] at hld
    simp only [Nat.add_zero, Nat.zero_add, List.take_zero, List.nil_append, intC_length] at hst
    have hrun : (Builtin.copy_ #[23, 23] o.type #[.slice (some ⟨g, 0, none⟩) N N, .slice (some ⟨b, off, none⟩) l.length c]).run Tryz.prog w = .ok (.int .i64 (l.length : Int)) (w.setRow g (intC l ++ cur.drop l.length).toArray) := by
      simp [Builtin.copy_, run_underlying Tryz.underlying23, Builtin.lenOf, Builtin.firstCells, sizeOf, typeInfo, hi, hs3, hmin, hld, goInt]
      simp [hst]
    unfold Oper.wp execOp
    simp only [ho, resolve, invoke, builtin, Sem.run_bind, Sem.run_pure, Result.andThen_ok, List.map_toArray, List.map_cons, List.map_nil, hd, hs, hrun]
    exact hK _ _ hh
/-- The two ints behind what is lent. -/
def tail2 : List Int := [-71, -72]
theorem lent_sets (l : List Int) (D : List Value) (hD : D.length = 2) :
    ((intC l ++ D).set l.length (.int .i64 (-71))).set (l.length + 1) (.int .i64 (-72)) = intC (l ++ tail2) := by
  match D, hD with
  | [d0, d1], _ =>
    rw [intC_append]
    have e := intC_length l
    rw [List.set_append_right _ _ (by omega), List.set_append_right _ _ (by omega), e, Nat.sub_self, show l.length + 1 - l.length = 1 by omega]
    rfl
theorem set_take_drop (L : List Value) (i : Nat) (u : Value) (h : i < L.length) : L.take i ++ [u] ++ L.drop (i + 1) = L.set i u := by
  rw [List.set_eq_take_append_cons_drop, if_pos h]
  simp
set_option maxRecDepth 200000 in
set_option maxHeartbeats 4000000 in
theorem lent_any (l : List Int) (k : Int) (t s : ByteArray) (n f ro rf rl rc : Int) (pa ia : Option Addr) (pc iN ic : Nat) (w : World) (hA : IntsAt w pa l) (hl : l.length ≤ 17592186043904) :
    Calls Tryz.prog 19 #[(Dat.mk k t n f s ro rf rl rc pa l.length pc ia iN ic).val] w fun e w' => ∃ g, w.heap.size ≤ g ∧ e = .returned (.tuple #[(Dat.mk k t n f s ro rf rl rc (some ⟨g, 0, none⟩) l.length (l.length + 2) ia iN ic).val, .slice (some ⟨g, 0, none⟩) (l.length + 2) (l.length + 2)]) ∧ Row w' g 3 (intC (l ++ tail2)) ∧ Below w.heap.size w w' := by
  have HA := Lib.hid hA
  clear hA
  obtain ⟨Z, hZ, hmk⟩ := make_ints3 (l.length + 2) (by omega) ((w.alloc (.cells [.int .i64 k, .string t, .int .i64 n, .int .u64 f, .string s, .int .i64 ro, .int .i64 rf, .int .i64 rl, .int .i64 rc, .slice pa l.length pc, .slice ia iN ic].toArray 28)).alloc (.cells [.int .i64 0, .string ⟨#[]⟩, .int .i64 0, .int .u64 0, .string ⟨#[]⟩, .int .i64 0, .int .i64 0, .int .i64 0, .int .i64 0, .slice none 0 0, .slice none 0 0].toArray 28))
  have e2 : ((l.length + 2 : Nat) : Int) = (l.length : Int) + 2 := by omega
  rw [e2] at hmk
  clear e2
  have HZ := Lib.hid hZ
  have hD : Hid ((Z.drop l.length).length = 2) := Lib.hid (by rw [List.length_drop, hZ]; omega)
  have hb0 := int_lt0 (show l.length < l.length + 2 by omega)
  have hb1 := int_lt0 (show l.length + 1 < l.length + 2 by omega)
  have hm1 : (l.length : Int) + 1 ≤ 9223372036854775807 := by omega
  clear hZ
  unfold Dat.val
  go_enter Tryz.func19, Tryz.ntmps19
  go_wp2_with (first
    | (refine copy_in _ _ (w.heap.size + 1 + 1) (l.length + 2) pa pc l Z _ rfl rfl rfl rfl (row_at2 w _ _ 3 Z) (HA.out.below (below3 w _ _ _)) (by omega) HZ.out ?_; intro w1 hr1 hb1
       have RG : Hid (Row w1 (w.heap.size + 1 + 1) 3 (intC l ++ Z.drop l.length)) := hr1
       have R1 : Hid (Row w1 w.heap.size 28 [.int .i64 k, .string t, .int .i64 n, .int .u64 f, .string s, .int .i64 ro, .int .i64 rf, .int .i64 rl, .int .i64 rc, .slice pa l.length pc, .slice ia iN ic]) := (((Row.made w 28 [.int .i64 k, .string t, .int .i64 n, .int .u64 f, .string s, .int .i64 ro, .int .i64 rf, .int .i64 rl, .int .i64 rc, .slice pa l.length pc, .slice ia iN ic]).alloc _).alloc _).below (hb1 (w.heap.size + 1 + 1) (Nat.le_refl _)) (by omega)
       have R2 : Hid (Row w1 (w.heap.size + 1) 28 zeroC) := ((row_atOne w _ 28 zeroC).alloc _).below (hb1 (w.heap.size + 1 + 1) (Nat.le_refl _)) (by omega)
       have B1 : Hid (Below w.heap.size w w1) := (below3 w _ _ _).trans (hb1 w.heap.size (by omega))
       obtain ⟨p0, p1, p2, p3, p4, p5, p6, p7, p8, p9, p10, pf⟩ := row11 R1.out; have pl := R1.out.lt
       have NG : Hid (intC (l ++ tail2) = ((intC l ++ Z.drop l.length).set l.length (.int .i64 (-71))).set (l.length + 1) (.int .i64 (-72))) := Lib.hid (lent_sets l _ hD.out).symm
       have LG : Hid ((intC l ++ Z.drop l.length).length = l.length + 2) := Lib.hid (by rw [List.length_append, intC_length, hD.out])
       clear hr1 hb1 hmk)
    | (refine put_at (.tmp 21) _ 3 (w.heap.size + 1 + 1) l.length 3 (intC l ++ Z.drop l.length) [.int .i64 (-71)] _ _ rfl rfl rfl rfl rfl size3 (by simp [Value.oneCell']) RG.out (by rw [LG.out]; simp) ?_; intro w2 hr2 hb2 hf2
       have RG2 : Hid (Row w2 (w.heap.size + 1 + 1) 3 ((intC l ++ Z.drop l.length).set l.length (.int .i64 (-71)))) := Lib.hid (by rw [← set_take_drop _ _ _ (by rw [LG.out]; omega)]; exact hr2)
       have R12 : Hid (Row w2 w.heap.size 28 [.int .i64 k, .string t, .int .i64 n, .int .u64 f, .string s, .int .i64 ro, .int .i64 rf, .int .i64 rl, .int .i64 rc, .slice pa l.length pc, .slice ia iN ic]) := (hf2 w.heap.size (by omega)).trans R1.out
       have R22 : Hid (Row w2 (w.heap.size + 1) 28 zeroC) := (hf2 (w.heap.size + 1) (by omega)).trans R2.out
       have B2 : Hid (Below w.heap.size w w2) := B1.out.trans (hb2 w.heap.size (by omega))
       clear hr2 hb2 hf2 RG R1 R2 B1 p0 p1 p2 p3 p4 p5 p6 p7 p8 p9 p10 pf pl
       obtain ⟨q0, q1, q2, q3, q4, q5, q6, q7, q8, q9, q10, qf⟩ := row11 R12.out; have ql := R12.out.lt)
    | (refine put_at (.tmp 28) _ 3 (w.heap.size + 1 + 1) (l.length + 1) 3 ((intC l ++ Z.drop l.length).set l.length (.int .i64 (-71))) [.int .i64 (-72)] _ _ rfl rfl rfl rfl rfl size3 (by simp [Value.oneCell']) RG2.out (by rw [List.length_set, LG.out]; simp) ?_; intro w3 hr3 hb3 hf3
       have RG3 : Hid (Row w3 (w.heap.size + 1 + 1) 3 (intC (l ++ tail2))) := Lib.hid (by rw [NG.out, ← set_take_drop _ _ _ (by rw [List.length_set, LG.out]; omega)]; exact hr3)
       have R13 : Hid (Row w3 w.heap.size 28 [.int .i64 k, .string t, .int .i64 n, .int .u64 f, .string s, .int .i64 ro, .int .i64 rf, .int .i64 rl, .int .i64 rc, .slice pa l.length pc, .slice ia iN ic]) := (hf3 w.heap.size (by omega)).trans R12.out
       have R23 : Hid (Row w3 (w.heap.size + 1) 28 zeroC) := (hf3 (w.heap.size + 1) (by omega)).trans R22.out
       have B3 : Hid (Below w.heap.size w w3) := B2.out.trans (hb3 w.heap.size (by omega))
       clear hr3 hb3 hf3 RG2 R12 R22 B2 q0 q1 q2 q3 q4 q5 q6 q7 q8 q9 q10 qf ql NG LG
       obtain ⟨p0, p1, p2, p3, p4, p5, p6, p7, p8, p9, p10, pf⟩ := row11 R13.out; have pl := R13.out.lt)
    | (refine put_at (.tmp 36) (.tmp 34) 23 w.heap.size 9 28 [.int .i64 k, .string t, .int .i64 n, .int .u64 f, .string s, .int .i64 ro, .int .i64 rf, .int .i64 rl, .int .i64 rc, .slice pa l.length pc, .slice ia iN ic] [.slice (some ⟨w.heap.size + 1 + 1, 0, none⟩) l.length (l.length + 2)] _ _ rfl rfl rfl rfl rfl size23 (by simp [Value.oneCell']) R13.out (by simp) ?_; intro w4 hr4 hb4 hf4
       have RG4 : Hid (Row w4 (w.heap.size + 1 + 1) 3 (intC (l ++ tail2))) := (hf4 (w.heap.size + 1 + 1) (by omega)).trans RG3.out
       have R14 : Hid (Row w4 w.heap.size 28 [.int .i64 k, .string t, .int .i64 n, .int .u64 f, .string s, .int .i64 ro, .int .i64 rf, .int .i64 rl, .int .i64 rc, .slice (some ⟨w.heap.size + 1 + 1, 0, none⟩) l.length (l.length + 2), .slice ia iN ic]) := hr4
       have R24 : Hid (Row w4 (w.heap.size + 1) 28 zeroC) := (hf4 (w.heap.size + 1) (by omega)).trans R23.out
       have B4 : Hid (Below w.heap.size w w4) := B3.out.trans (hb4 w.heap.size (by omega))
       clear hr4 hb4 hf4 RG3 R13 R23 B3 p0 p1 p2 p3 p4 p5 p6 p7 p8 p9 p10 pf pl
       obtain ⟨q0, q1, q2, q3, q4, q5, q6, q7, q8, q9, q10, qf⟩ := row11 R14.out; have ql := R14.out.lt)
    | (refine put_dat (.tmp 2) (.tmp 37) (w.heap.size + 1) zeroC [.int .i64 k, .string t, .int .i64 n, .int .u64 f, .string s, .int .i64 ro, .int .i64 rf, .int .i64 rl, .int .i64 rc, .slice (some ⟨w.heap.size + 1 + 1, 0, none⟩) l.length (l.length + 2), .slice ia iN ic] _ rfl rfl rfl rfl R24.out rfl rfl rfl ?_; intro w5 hr5 hb5 hf5
       have B5 : Hid (Below w.heap.size w w5) := B4.out.trans (hb5 _ (by omega))
       have R5 := Lib.hid hr5
       have RG5 : Hid (Row w5 (w.heap.size + 1 + 1) 3 (intC (l ++ tail2))) := (hf5 (w.heap.size + 1 + 1) (by omega)).trans RG4.out
       clear hr5 hb5 hf5 RG4 R14 R24 B4 q0 q1 q2 q3 q4 q5 q6 q7 q8 q9 q10 qf ql))
  exact bodyPost_ret (ret_ct rfl _ _ (w.heap.size + 1) _ rfl R5.out rfl) rfl ⟨(w.heap.size + 1 + 1), by omega, rfl, RG5.out, B5.out⟩
end Go.Proofs.YtehakhplglhkdaaGreatDoor
