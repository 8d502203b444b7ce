/- number.Convert of any kind, name and datum. Conditions of the fault: the texts are short; of a path: it is not long. -/
import Derived.Test.YtehakhplglhkdaaGreatDoorConvW
import Derived.Test.YtehakhplglhkdaaGreatDoorPathRow
import Derived.Test.YtehakhplglhkdaaGreatDoorBin3
namespace Go.Proofs.YtehakhplglhkdaaGreatDoor
set_option linter.unusedVariables false
open Go.RowKit

/-- *x = v, x some cells of a block that is known whole. -/
theorem put_at {ops : Array Oper} {rest : List Oper} {o : Oper} {a : Act} {Q : Exit → Act → World → Prop} (x y : Operand) (ty : TypeId) (g i : Nat) (t : TypeId) (old vs : List Value) (v : Value) (w : World)
    (hgd : o.guard = none) (ho : o.op = .store ty x y) (hx : a.eval x = .pointer (some ⟨g, i, none⟩)) (hy : a.eval y = v) (hv : v.cells = vs.toArray) (hsz : (Tryz.prog.info? ty).map (·.size) = some vs.length)
    (h1 : ∀ u ∈ vs, u.oneCell' = true) (hr : Row w g t old) (hfit : i + vs.length ≤ old.length)
    (h : ∀ w', Row w' g t (old.take i ++ vs ++ old.drop (i + vs.length)) → (∀ B, B ≤ g → Below B w w') → (∀ k, k ≠ g → w'.heap[k]? = w.heap[k]?) → wpList Tryz.prog ops Q rest (a.put o.dst undef) w') : wpList Tryz.prog ops Q (o :: rest) a w := by
  have hst := run_storeCells_at (P := Tryz.prog) g i t vs 0 old.toArray w hr (by simpa using hfit) h1
  simp only [Nat.add_zero] at hst
  have hh := h _ (hr.turn (old.take i ++ vs ++ old.drop (i + vs.length))) (fun B hB => below_setRow (Below.refl _ _) hB _) (fun k hk => setRow_far w g k _ hk)
  refine wpList_plain hgd fun _ hK => ?_
  cases hq : Tryz.prog.info? ty with
  | none => simp [hq] at hsz
  | some j =>
    have hs : j.size = vs.length := by simpa [hq] using hsz
    have hrun : (storeVar ty ⟨g, i, none⟩ v).run Tryz.prog w = .ok () (w.setRow g (old.take i ++ vs ++ old.drop (i + vs.length)).toArray) := by
      simp [storeVar, sizeOf, typeInfo, hq, hs, hv]
      simpa using hst
    unfold Oper.wp execOp
    simp only [ho, hx, hy, Instr.storeAt, Instr.sureAddr, Sem.run_bind, Sem.run_pure, Result.andThen_ok, hrun]
    exact hK _ _ hh
theorem size23 : (Tryz.prog.info? 23).map (·.size) = some 1 := by kernel_rfl
theorem size25 : (Tryz.prog.info? 25).map (·.size) = some 5 := by kernel_rfl

set_option maxRecDepth 200000 in
set_option maxHeartbeats 4000000 in
theorem cv_1 (u : ByteArray) (t s : ByteArray) (n f ro rf rl rc : Int) (pa ia : Option Addr) (pn pc iN ic : Nat) (w : World) : Calls Tryz.prog 20 #[.int .i64 1, .string u, (Dat.mk 1 t n f s ro rf rl rc pa pn pc ia iN ic).val] w fun e w' => ∃ A c, e = .returned (.tuple #[(Dat.mk 1 u n 0 ⟨#[]⟩ 0 0 0 0 A ([] : List Int).length c none 0 0).val, .nilIface]) ∧ OwnI w.heap.size w' (.slice A ([] : List Int).length c) ([] : List Int) ∧ Below w.heap.size w w' := by
  unfold Dat.val
  go_enter Tryz.func20, Tryz.ntmps20
  go_wp2
  go_returns
  exact ⟨none, 0, rfl, OwnI.nil _ _, by go_grown⟩
set_option maxRecDepth 200000 in
set_option maxHeartbeats 4000000 in
theorem cv_2 (u : ByteArray) (t s : ByteArray) (n f ro rf rl rc : Int) (pa ia : Option Addr) (pn pc iN ic : Nat) (w : World) : Calls Tryz.prog 20 #[.int .i64 2, .string u, (Dat.mk 2 t n f s ro rf rl rc pa pn pc ia iN ic).val] w fun e w' => ∃ A c, e = .returned (.tuple #[(Dat.mk 2 u n 0 ⟨#[]⟩ 0 0 0 0 A ([] : List Int).length c none 0 0).val, .nilIface]) ∧ OwnI w.heap.size w' (.slice A ([] : List Int).length c) ([] : List Int) ∧ Below w.heap.size w w' := by
  unfold Dat.val
  go_enter Tryz.func20, Tryz.ntmps20
  go_wp2
  go_returns
  exact ⟨none, 0, rfl, OwnI.nil _ _, by go_grown⟩
set_option maxRecDepth 200000 in
set_option maxHeartbeats 4000000 in
theorem cv_4 (u : ByteArray) (t s : ByteArray) (n f ro rf rl rc : Int) (pa ia : Option Addr) (pn pc iN ic : Nat) (w : World) : Calls Tryz.prog 20 #[.int .i64 4, .string u, (Dat.mk 4 t n f s ro rf rl rc pa pn pc ia iN ic).val] w fun e w' => ∃ A c, e = .returned (.tuple #[(Dat.mk 4 u 0 0 s 0 0 0 0 A ([] : List Int).length c none 0 0).val, .nilIface]) ∧ OwnI w.heap.size w' (.slice A ([] : List Int).length c) ([] : List Int) ∧ Below w.heap.size w w' := by
  unfold Dat.val
  go_enter Tryz.func20, Tryz.ntmps20
  go_wp2
  go_returns
  exact ⟨none, 0, rfl, OwnI.nil _ _, by go_grown⟩
set_option maxRecDepth 200000 in
set_option maxHeartbeats 4000000 in
theorem cv_3 (u : ByteArray) (t s : ByteArray) (n f ro rf rl rc : Int) (pa ia : Option Addr) (pn pc iN ic : Nat) (w : World) : Calls Tryz.prog 20 #[.int .i64 3, .string u, (Dat.mk 3 t n f s ro rf rl rc pa pn pc ia iN ic).val] w fun e w' => ∃ A c, e = .returned (.tuple #[(Dat.mk 3 u 0 (fixNan f.toNat) ⟨#[]⟩ 0 0 0 0 A ([] : List Int).length c none 0 0).val, .nilIface]) ∧ OwnI w.heap.size w' (.slice A ([] : List Int).length c) ([] : List Int) ∧ Below w.heap.size w w' := by
  have HF := Lib.hid fun w => float_any u f.toNat w
  generalize (fixNan f.toNat) = r at *
  unfold mk Dat.val at *
  go_enter Tryz.func20, Tryz.ntmps20
  go_wp2_with (first
    | (go_at_call 36; refine (HF.out _).mono ?_; rintro en w2 ⟨rfl, hb⟩
       have R2 : Hid (Row w2 (w.heap.size + 1) 28 zeroC) := ((row_atOne w _ 28 zeroC).alloc _).below hb (by simp <;> omega)
       have B2 : Hid (Below w.heap.size w w2) := below_more (below3 w _ _ _) hb (by simp <;> omega)
       clear hb HF)
    | (refine put_dat (.tmp 6) (.tmp 46) (w.heap.size + 1) zeroC (mk 3 u 0 r ⟨#[]⟩).cells _ rfl rfl rfl rfl R2.out rfl rfl rfl ?_; intro w5 hr5 hb5 hf5
       have B5 : Hid (Below w.heap.size w w5) := B2.out.trans (hb5 _ (by omega))
       have R5 := Lib.hid hr5
       clear B2 R2 hb5 hr5 hf5))
  exact bodyPost_ret (ret_ct rfl _ _ (w.heap.size + 1) _ rfl R5.out rfl) rfl ⟨none, 0, rfl, OwnI.nil _ _, B5.out⟩
set_option maxRecDepth 200000 in
set_option maxHeartbeats 4000000 in
theorem cv_if (u : ByteArray) (t s : ByteArray) (n f ro rf rl rc : Int) (pa ia : Option Addr) (pn pc iN ic : Nat) (w : World) : Calls Tryz.prog 20 #[.int .i64 3, .string u, (Dat.mk 2 t n f s ro rf rl rc pa pn pc ia iN ic).val] w fun e w' => ∃ A c, e = .returned (.tuple #[(Dat.mk 3 u 0 (fixNan (floatOfInt .f64 n)) ⟨#[]⟩ 0 0 0 0 A ([] : List Int).length c none 0 0).val, .nilIface]) ∧ OwnI w.heap.size w' (.slice A ([] : List Int).length c) ([] : List Int) ∧ Below w.heap.size w w' := by
  have HF := Lib.hid fun w => float_any u (floatOfInt .f64 n) w
  generalize (fixNan (floatOfInt .f64 n)) = r at *
  unfold mk Dat.val at *
  go_enter Tryz.func20, Tryz.ntmps20
  go_wp2_with (first
    | (go_at_call 36; refine (HF.out _).mono ?_; rintro en w2 ⟨rfl, hb⟩
       have R2 : Hid (Row w2 (w.heap.size + 1) 28 zeroC) := ((row_atOne w _ 28 zeroC).alloc _).below hb (by simp <;> omega)
       have B2 : Hid (Below w.heap.size w w2) := below_more (below3 w _ _ _) hb (by simp <;> omega)
       clear hb HF)
    | (refine put_dat (.tmp 6) (.tmp 79) (w.heap.size + 1) zeroC (mk 3 u 0 r ⟨#[]⟩).cells _ rfl rfl rfl rfl R2.out rfl rfl rfl ?_; intro w5 hr5 hb5 hf5
       have B5 : Hid (Below w.heap.size w w5) := B2.out.trans (hb5 _ (by omega))
       have R5 := Lib.hid hr5
       clear B2 R2 hb5 hr5 hf5))
  exact bodyPost_ret (ret_ct rfl _ _ (w.heap.size + 1) _ rfl R5.out rfl) rfl ⟨none, 0, rfl, OwnI.nil _ _, B5.out⟩
set_option maxRecDepth 200000 in
set_option maxHeartbeats 4000000 in
theorem cv_fi (u : ByteArray) (t s : ByteArray) (n f ro rf rl rc : Int) (pa ia : Option Addr) (pn pc iN ic : Nat) (w : World) (hf : 0 ≤ f ∧ f < 18446744073709551616) : Calls Tryz.prog 20 #[.int .i64 2, .string u, (Dat.mk 3 t n f s ro rf rl rc pa pn pc ia iN ic).val] w fun e w' => ∃ A c, e = .returned (.tuple #[(Dat.mk 2 u (wholeOf f.toNat) 0 ⟨#[]⟩ 0 0 0 0 A ([] : List Int).length c none 0 0).val, .nilIface]) ∧ OwnI w.heap.size w' (.slice A ([] : List Int).length c) ([] : List Int) ∧ Below w.heap.size w w' := by
  have HT := Lib.hid fun w => toward_any f.toNat w (by omega)
  generalize wholeOf f.toNat = m at *
  unfold Dat.val
  go_enter Tryz.func20, Tryz.ntmps20
  go_wp2_with (first | (go_at_call 52; refine (HT.out _).mono ?_; rintro en w2 ⟨rfl, rfl⟩; clear HT))
  go_returns
  exact ⟨none, 0, rfl, OwnI.nil _ _, by go_grown⟩
set_option maxRecDepth 200000 in
set_option maxHeartbeats 4000000 in
theorem cv_p (u : ByteArray) (l : List Int) (k : Int) (t s : ByteArray) (n f ro rf rl rc : Int) (pa ia : Option Addr) (pc iN ic : Nat) (w : World) (h1 : decide (k < 1) = false) (h2 : decide ((7 : Int) < k) = false) (h3 : (k == 1) = false) (h4 : (k == 2) = false) (h5 : (k == 3) = false) (h6 : (k == 4) = false) (hA : IntsAt w pa l) (hn : pa = none → pc = 0) (hl : l.length ≤ 17592186043904) : Calls Tryz.prog 20 #[.int .i64 k, .string u, (Dat.mk k t n f s ro rf rl rc pa l.length pc ia iN ic).val] w fun e w' => ∃ A c, e = .returned (.tuple #[(Dat.mk k u 0 0 ⟨#[]⟩ ro rf rl rc A (l : List Int).length c none 0 0).val, .nilIface]) ∧ OwnI w.heap.size w' (.slice A l.length c) l ∧ Below w.heap.size w w' := by
  have HA := Lib.hid hA
  have HN := Lib.hid hn
  clear hA hn
  unfold Dat.val
  go_enter Tryz.func20, Tryz.ntmps20
  go_wp2_with (first
    | (refine put_at (.tmp 27) (.tmp 26) 25 (w.heap.size + 1 + 1) 5 28 [.int .i64 k, .string u, .int .i64 0, .int .u64 0, .string ⟨#[]⟩, .int .i64 0, .int .i64 0, .int .i64 0, .int .i64 0, .slice none 0 0, .slice none 0 0] [.int .i64 ro, .int .i64 rf, .int .i64 rl, .int .i64 rc, .slice pa l.length pc] _ _ rfl rfl rfl rfl rfl size25 (by simp [Value.oneCell']) (row_at2 w _ _ 28 [.int .i64 k, .string u, .int .i64 0, .int .u64 0, .string ⟨#[]⟩, .int .i64 0, .int .i64 0, .int .i64 0, .int .i64 0, .slice none 0 0, .slice none 0 0]) (by simp) ?_; intro w1 hr1 hb1 hf1
       have R8 : Hid (Row w1 (w.heap.size + 1 + 1) 28 [.int .i64 k, .string u, .int .i64 0, .int .u64 0, .string ⟨#[]⟩, .int .i64 ro, .int .i64 rf, .int .i64 rl, .int .i64 rc, .slice pa l.length pc, .slice none 0 0]) := hr1
       have R5 : Hid (Row w1 w.heap.size 28 [.int .i64 k, .string t, .int .i64 n, .int .u64 f, .string s, .int .i64 ro, .int .i64 rf, .int .i64 rl, .int .i64 rc, .slice pa l.length pc, .slice ia iN ic]) := (hf1 w.heap.size (by omega)).trans (((Row.made w 28 [.int .i64 k, .string t, .int .i64 n, .int .u64 f, .string s, .int .i64 ro, .int .i64 rf, .int .i64 rl, .int .i64 rc, .slice pa l.length pc, .slice ia iN ic]).alloc _).alloc _)
       have R6 : Hid (Row w1 (w.heap.size + 1) 28 zeroC) := (hf1 (w.heap.size + 1) (by omega)).trans ((row_atOne w _ 28 zeroC).alloc _)
       have B1 : Hid (Below w.heap.size w w1) := (below3 w _ _ _).trans (hb1 w.heap.size (by omega))
       obtain ⟨p0, p1, p2, p3, p4, p5, p6, p7, p8, p9, p10, pf⟩ := row11 R5.out; have pl := R5.out.lt
       clear hr1 hb1 hf1)
    | (refine copy_i _ _ pa pc l _ rfl rfl rfl rfl HN.out (HA.out.below B1.out) (by omega) ?_; intro A c w2 hw2 hb2
       have O2 := Lib.hid hw2
       have L2 : Hid (w.heap.size + 1 + 1 < w1.heap.size) := R8.out.lt
       have B2 : Hid (Below w.heap.size w w2) := below_more B1.out hb2 B1.out.size
       have R82 : Hid (Row w2 (w.heap.size + 1 + 1) 28 [.int .i64 k, .string u, .int .i64 0, .int .u64 0, .string ⟨#[]⟩, .int .i64 ro, .int .i64 rf, .int .i64 rl, .int .i64 rc, .slice pa l.length pc, .slice none 0 0]) := R8.out.below hb2 R8.out.lt
       have R62 : Hid (Row w2 (w.heap.size + 1) 28 zeroC) := R6.out.below hb2 R6.out.lt
       clear hw2 hb2 R8 R6 R5 B1 HA HN p0 p1 p2 p3 p4 p5 p6 p7 p8 p9 p10 pf pl
       obtain ⟨q0, q1, q2, q3, q4, q5, q6, q7, q8, q9, q10, qf⟩ := row11 R82.out; have ql := R82.out.lt)
    | (have lo := L2.out; refine put_at (.tmp 33) (.tmp 31) 23 (w.heap.size + 1 + 1) 9 28 [.int .i64 k, .string u, .int .i64 0, .int .u64 0, .string ⟨#[]⟩, .int .i64 ro, .int .i64 rf, .int .i64 rl, .int .i64 rc, .slice pa l.length pc, .slice none 0 0] [.slice A l.length c] _ _ rfl rfl rfl rfl rfl size23 (by simp [Value.oneCell']) R82.out (by simp) ?_; intro w3 hr3 hb3 hf3
       have R83 : Hid (Row w3 (w.heap.size + 1 + 1) 28 [.int .i64 k, .string u, .int .i64 0, .int .u64 0, .string ⟨#[]⟩, .int .i64 ro, .int .i64 rf, .int .i64 rl, .int .i64 rc, .slice A l.length c, .slice none 0 0]) := hr3
       have R63 : Hid (Row w3 (w.heap.size + 1) 28 zeroC) := (hf3 (w.heap.size + 1) (by omega)).trans R62.out
       have B3 : Hid (Below w.heap.size w w3) := B2.out.trans (hb3 w.heap.size (by omega))
       have O3 : Hid (OwnI w1.heap.size w3 (.slice A l.length c) l) := own_same O2.out (fun g hg => hf3 g (by have := (O2.out.lt hg).1; omega))
       clear hr3 hb3 hf3 R82 R62 B2 O2 q0 q1 q2 q3 q4 q5 q6 q7 q8 q9 q10 qf ql
       obtain ⟨p0, p1, p2, p3, p4, p5, p6, p7, p8, p9, p10, pf⟩ := row11 R83.out; have pl := R83.out.lt)
    | (have lo := L2.out; refine put_dat (.tmp 6) (.tmp 52) (w.heap.size + 1) zeroC [.int .i64 k, .string u, .int .i64 0, .int .u64 0, .string ⟨#[]⟩, .int .i64 ro, .int .i64 rf, .int .i64 rl, .int .i64 rc, .slice A l.length c, .slice none 0 0] _ rfl rfl rfl rfl R63.out rfl rfl rfl ?_; intro w5 hr5 hb5 hf5
       have B5 : Hid (Below w.heap.size w w5) := B3.out.trans (hb5 _ (by omega))
       have R5 := Lib.hid hr5
       have O5 : Hid (OwnI w.heap.size w5 (.slice A l.length c) l) := OwnI.low (own_same O3.out (fun g hg => hf5 g (by have := (O3.out.lt hg).1; omega))) (by omega)
       clear B3 R63 R83 hb5 hr5 hf5 O3 p0 p1 p2 p3 p4 p5 p6 p7 p8 p9 p10 pf pl))
  exact bodyPost_ret (ret_ct rfl _ _ (w.heap.size + 1) _ rfl R5.out rfl) rfl ⟨A, c, rfl, O5.out, B5.out⟩
set_option maxRecDepth 200000 in
set_option maxHeartbeats 4000000 in
theorem cv_no_lo (u : ByteArray) (k dk : Int) (t s : ByteArray) (n f ro rf rl rc : Int) (pa ia : Option Addr) (pn pc iN ic : Nat) (w : World) (h1 : decide (k < 1) = true) (hs : u.size + t.size ≤ 281474976710600) : Calls Tryz.prog 20 #[.int .i64 k, .string u, (Dat.mk dk t n f s ro rf rl rc pa pn pc ia iN ic).val] w fun e w' => ∃ v, e = .returned (.tuple #[zeroD.val, v]) ∧ IsFault w w' v sOperand (u ++ ⟨#[32]⟩ ++ nameOf (Dat.mk dk t n f s ro rf rl rc pa pn pc ia iN ic)) ∧ Below w.heap.size w w' := by
  have hn := fun w => name_any (Dat.mk dk t n f s ro rf rl rc pa pn pc ia iN ic) w (by simp only; omega)
  have hz := name_size (Dat.mk dk t n f s ro rf rl rc pa pn pc ia iN ic)
  generalize nameOf (Dat.mk dk t n f s ro rf rl rc pa pn pc ia iN ic) = nm at *
  have hs2 : Hid (u.size + nm.size ≤ 281474976710650) := Lib.hid (by simp only at hz; omega)
  unfold Dat.val at *
  have HN := Lib.hid hn
  clear hn hz hs
  go_enter Tryz.func20, Tryz.ntmps20
  go_wp2_with (first
    | (go_at_call 34; refine (HN.out _).mono ?_; rintro en w2 ⟨rfl, hb⟩
       have R2 : Hid (Row w2 (w.heap.size + 1) 28 zeroC) := ((row_atOne w _ 28 zeroC).alloc _).below hb (by simp <;> omega)
       have B2 : Hid (Below w.heap.size w w2) := below_more (below3 w _ _ _) hb (by simp <;> omega)
       clear hb HN)
    | (go_at_call 39; refine (operand2 w2.heap.size _ u nm _ (Row.made w2 _ [.string u, .string nm]) hs2.out).mono ?_
       rintro en w3 ⟨v, rfl, ⟨g, rfl, hg, hr⟩, hb⟩
       have R3 : Hid (Row w3 (w.heap.size + 1) 28 zeroC) := (R2.out.alloc _).below hb (R2.out.alloc _).lt
       have B3 : Hid (Below w.heap.size w w3) := below_more (B2.out.alloc B2.out.size _) hb (by have := B2.out.size; simp <;> omega)
       have hg3 : Hid (w.heap.size + 1 < g) := by have := R2.out.lt; simp at hg; exact Lib.hid (by omega)
       have F3 := Lib.hid hr
       clear hr hb hg B2 R2)
    | (refine put_dat (.tmp 6) (.tmp 80) (w.heap.size + 1) zeroC zeroD.cells _ rfl rfl rfl rfl R3.out rfl rfl rfl ?_; intro w5 hr5 hb5 hf5
       have B5 : Hid (Below w.heap.size w w5) := B3.out.trans (hb5 _ (by omega))
       have R5 := Lib.hid hr5
       have F5 : Hid (Row w5 g 35 _) := (hf5 g (by have := hg3.out; omega)).trans F3.out
       clear B3 R3 hb5 hr5 hf5 F3))
  refine bodyPost_ret (ret_ct rfl _ _ (w.heap.size + 1) _ rfl R5.out rfl) rfl ⟨_, rfl, ⟨g, rfl, by have := hg3.out; omega, F5.out⟩, B5.out⟩
set_option maxRecDepth 200000 in
set_option maxHeartbeats 4000000 in
theorem cv_no_hi (u : ByteArray) (k dk : Int) (t s : ByteArray) (n f ro rf rl rc : Int) (pa ia : Option Addr) (pn pc iN ic : Nat) (w : World) (h1 : decide (k < 1) = false) (h2 : decide ((7 : Int) < k) = true) (hs : u.size + t.size ≤ 281474976710600) : Calls Tryz.prog 20 #[.int .i64 k, .string u, (Dat.mk dk t n f s ro rf rl rc pa pn pc ia iN ic).val] w fun e w' => ∃ v, e = .returned (.tuple #[zeroD.val, v]) ∧ IsFault w w' v sOperand (u ++ ⟨#[32]⟩ ++ nameOf (Dat.mk dk t n f s ro rf rl rc pa pn pc ia iN ic)) ∧ Below w.heap.size w w' := by
  have hn := fun w => name_any (Dat.mk dk t n f s ro rf rl rc pa pn pc ia iN ic) w (by simp only; omega)
  have hz := name_size (Dat.mk dk t n f s ro rf rl rc pa pn pc ia iN ic)
  generalize nameOf (Dat.mk dk t n f s ro rf rl rc pa pn pc ia iN ic) = nm at *
  have hs2 : Hid (u.size + nm.size ≤ 281474976710650) := Lib.hid (by simp only at hz; omega)
  unfold Dat.val at *
  have HN := Lib.hid hn
  clear hn hz hs
  go_enter Tryz.func20, Tryz.ntmps20
  go_wp2_with (first
    | (go_at_call 34; refine (HN.out _).mono ?_; rintro en w2 ⟨rfl, hb⟩
       have R2 : Hid (Row w2 (w.heap.size + 1) 28 zeroC) := ((row_atOne w _ 28 zeroC).alloc _).below hb (by simp <;> omega)
       have B2 : Hid (Below w.heap.size w w2) := below_more (below3 w _ _ _) hb (by simp <;> omega)
       clear hb HN)
    | (go_at_call 39; refine (operand2 w2.heap.size _ u nm _ (Row.made w2 _ [.string u, .string nm]) hs2.out).mono ?_
       rintro en w3 ⟨v, rfl, ⟨g, rfl, hg, hr⟩, hb⟩
       have R3 : Hid (Row w3 (w.heap.size + 1) 28 zeroC) := (R2.out.alloc _).below hb (R2.out.alloc _).lt
       have B3 : Hid (Below w.heap.size w w3) := below_more (B2.out.alloc B2.out.size _) hb (by have := B2.out.size; simp <;> omega)
       have hg3 : Hid (w.heap.size + 1 < g) := by have := R2.out.lt; simp at hg; exact Lib.hid (by omega)
       have F3 := Lib.hid hr
       clear hr hb hg B2 R2)
    | (refine put_dat (.tmp 6) (.tmp 80) (w.heap.size + 1) zeroC zeroD.cells _ rfl rfl rfl rfl R3.out rfl rfl rfl ?_; intro w5 hr5 hb5 hf5
       have B5 : Hid (Below w.heap.size w w5) := B3.out.trans (hb5 _ (by omega))
       have R5 := Lib.hid hr5
       have F5 : Hid (Row w5 g 35 _) := (hf5 g (by have := hg3.out; omega)).trans F3.out
       clear B3 R3 hb5 hr5 hf5 F3))
  refine bodyPost_ret (ret_ct rfl _ _ (w.heap.size + 1) _ rfl R5.out rfl) rfl ⟨_, rfl, ⟨g, rfl, by have := hg3.out; omega, F5.out⟩, B5.out⟩
set_option maxRecDepth 200000 in
set_option maxHeartbeats 4000000 in
theorem cv_no_two (u : ByteArray) (dk : Int) (t s : ByteArray) (n f ro rf rl rc : Int) (pa ia : Option Addr) (pn pc iN ic : Nat) (w : World) (h3 : ((2 : Int) == dk) = false) (h4 : (dk == 3) = false) (hs : u.size + t.size ≤ 281474976710600) : Calls Tryz.prog 20 #[.int .i64 2, .string u, (Dat.mk dk t n f s ro rf rl rc pa pn pc ia iN ic).val] w fun e w' => ∃ v, e = .returned (.tuple #[zeroD.val, v]) ∧ IsFault w w' v sOperand (u ++ ⟨#[32]⟩ ++ nameOf (Dat.mk dk t n f s ro rf rl rc pa pn pc ia iN ic)) ∧ Below w.heap.size w w' := by
  have hn := fun w => name_any (Dat.mk dk t n f s ro rf rl rc pa pn pc ia iN ic) w (by simp only; omega)
  have hz := name_size (Dat.mk dk t n f s ro rf rl rc pa pn pc ia iN ic)
  generalize nameOf (Dat.mk dk t n f s ro rf rl rc pa pn pc ia iN ic) = nm at *
  have hs2 : Hid (u.size + nm.size ≤ 281474976710650) := Lib.hid (by simp only at hz; omega)
  unfold Dat.val at *
  have HN := Lib.hid hn
  clear hn hz hs
  go_enter Tryz.func20, Tryz.ntmps20
  go_wp2_with (first
    | (go_at_call 34; refine (HN.out _).mono ?_; rintro en w2 ⟨rfl, hb⟩
       have R2 : Hid (Row w2 (w.heap.size + 1) 28 zeroC) := ((row_atOne w _ 28 zeroC).alloc _).below hb (by simp <;> omega)
       have B2 : Hid (Below w.heap.size w w2) := below_more (below3 w _ _ _) hb (by simp <;> omega)
       clear hb HN)
    | (go_at_call 39; refine (operand2 w2.heap.size _ u nm _ (Row.made w2 _ [.string u, .string nm]) hs2.out).mono ?_
       rintro en w3 ⟨v, rfl, ⟨g, rfl, hg, hr⟩, hb⟩
       have R3 : Hid (Row w3 (w.heap.size + 1) 28 zeroC) := (R2.out.alloc _).below hb (R2.out.alloc _).lt
       have B3 : Hid (Below w.heap.size w w3) := below_more (B2.out.alloc B2.out.size _) hb (by have := B2.out.size; simp <;> omega)
       have hg3 : Hid (w.heap.size + 1 < g) := by have := R2.out.lt; simp at hg; exact Lib.hid (by omega)
       have F3 := Lib.hid hr
       clear hr hb hg B2 R2)
    | (refine put_dat (.tmp 6) (.tmp 80) (w.heap.size + 1) zeroC zeroD.cells _ rfl rfl rfl rfl R3.out rfl rfl rfl ?_; intro w5 hr5 hb5 hf5
       have B5 : Hid (Below w.heap.size w w5) := B3.out.trans (hb5 _ (by omega))
       have R5 := Lib.hid hr5
       have F5 : Hid (Row w5 g 35 _) := (hf5 g (by have := hg3.out; omega)).trans F3.out
       clear B3 R3 hb5 hr5 hf5 F3))
  refine bodyPost_ret (ret_ct rfl _ _ (w.heap.size + 1) _ rfl R5.out rfl) rfl ⟨_, rfl, ⟨g, rfl, by have := hg3.out; omega, F5.out⟩, B5.out⟩
set_option maxRecDepth 200000 in
set_option maxHeartbeats 4000000 in
theorem cv_no_three (u : ByteArray) (dk : Int) (t s : ByteArray) (n f ro rf rl rc : Int) (pa ia : Option Addr) (pn pc iN ic : Nat) (w : World) (h3 : ((3 : Int) == dk) = false) (h4 : (dk == 2) = false) (hs : u.size + t.size ≤ 281474976710600) : Calls Tryz.prog 20 #[.int .i64 3, .string u, (Dat.mk dk t n f s ro rf rl rc pa pn pc ia iN ic).val] w fun e w' => ∃ v, e = .returned (.tuple #[zeroD.val, v]) ∧ IsFault w w' v sOperand (u ++ ⟨#[32]⟩ ++ nameOf (Dat.mk dk t n f s ro rf rl rc pa pn pc ia iN ic)) ∧ Below w.heap.size w w' := by
  have hn := fun w => name_any (Dat.mk dk t n f s ro rf rl rc pa pn pc ia iN ic) w (by simp only; omega)
  have hz := name_size (Dat.mk dk t n f s ro rf rl rc pa pn pc ia iN ic)
  generalize nameOf (Dat.mk dk t n f s ro rf rl rc pa pn pc ia iN ic) = nm at *
  have hs2 : Hid (u.size + nm.size ≤ 281474976710650) := Lib.hid (by simp only at hz; omega)
  unfold Dat.val at *
  have HN := Lib.hid hn
  clear hn hz hs
  go_enter Tryz.func20, Tryz.ntmps20
  go_wp2_with (first
    | (go_at_call 34; refine (HN.out _).mono ?_; rintro en w2 ⟨rfl, hb⟩
       have R2 : Hid (Row w2 (w.heap.size + 1) 28 zeroC) := ((row_atOne w _ 28 zeroC).alloc _).below hb (by simp <;> omega)
       have B2 : Hid (Below w.heap.size w w2) := below_more (below3 w _ _ _) hb (by simp <;> omega)
       clear hb HN)
    | (go_at_call 39; refine (operand2 w2.heap.size _ u nm _ (Row.made w2 _ [.string u, .string nm]) hs2.out).mono ?_
       rintro en w3 ⟨v, rfl, ⟨g, rfl, hg, hr⟩, hb⟩
       have R3 : Hid (Row w3 (w.heap.size + 1) 28 zeroC) := (R2.out.alloc _).below hb (R2.out.alloc _).lt
       have B3 : Hid (Below w.heap.size w w3) := below_more (B2.out.alloc B2.out.size _) hb (by have := B2.out.size; simp <;> omega)
       have hg3 : Hid (w.heap.size + 1 < g) := by have := R2.out.lt; simp at hg; exact Lib.hid (by omega)
       have F3 := Lib.hid hr
       clear hr hb hg B2 R2)
    | (refine put_dat (.tmp 6) (.tmp 80) (w.heap.size + 1) zeroC zeroD.cells _ rfl rfl rfl rfl R3.out rfl rfl rfl ?_; intro w5 hr5 hb5 hf5
       have B5 : Hid (Below w.heap.size w w5) := B3.out.trans (hb5 _ (by omega))
       have R5 := Lib.hid hr5
       have F5 : Hid (Row w5 g 35 _) := (hf5 g (by have := hg3.out; omega)).trans F3.out
       clear B3 R3 hb5 hr5 hf5 F3))
  refine bodyPost_ret (ret_ct rfl _ _ (w.heap.size + 1) _ rfl R5.out rfl) rfl ⟨_, rfl, ⟨g, rfl, by have := hg3.out; omega, F5.out⟩, B5.out⟩
set_option maxRecDepth 200000 in
set_option maxHeartbeats 4000000 in
theorem cv_no_other (u : ByteArray) (k dk : Int) (t s : ByteArray) (n f ro rf rl rc : Int) (pa ia : Option Addr) (pn pc iN ic : Nat) (w : World) (h1 : decide (k < 1) = false) (h2 : decide ((7 : Int) < k) = false) (h3 : (k == dk) = false) (h4 : (k == 2) = false) (h5 : (k == 3) = false) (hs : u.size + t.size ≤ 281474976710600) : Calls Tryz.prog 20 #[.int .i64 k, .string u, (Dat.mk dk t n f s ro rf rl rc pa pn pc ia iN ic).val] w fun e w' => ∃ v, e = .returned (.tuple #[zeroD.val, v]) ∧ IsFault w w' v sOperand (u ++ ⟨#[32]⟩ ++ nameOf (Dat.mk dk t n f s ro rf rl rc pa pn pc ia iN ic)) ∧ Below w.heap.size w w' := by
  have hn := fun w => name_any (Dat.mk dk t n f s ro rf rl rc pa pn pc ia iN ic) w (by simp only; omega)
  have hz := name_size (Dat.mk dk t n f s ro rf rl rc pa pn pc ia iN ic)
  generalize nameOf (Dat.mk dk t n f s ro rf rl rc pa pn pc ia iN ic) = nm at *
  have hs2 : Hid (u.size + nm.size ≤ 281474976710650) := Lib.hid (by simp only at hz; omega)
  unfold Dat.val at *
  have HN := Lib.hid hn
  clear hn hz hs
  go_enter Tryz.func20, Tryz.ntmps20
  go_wp2_with (first
    | (go_at_call 34; refine (HN.out _).mono ?_; rintro en w2 ⟨rfl, hb⟩
       have R2 : Hid (Row w2 (w.heap.size + 1) 28 zeroC) := ((row_atOne w _ 28 zeroC).alloc _).below hb (by simp <;> omega)
       have B2 : Hid (Below w.heap.size w w2) := below_more (below3 w _ _ _) hb (by simp <;> omega)
       clear hb HN)
    | (go_at_call 39; refine (operand2 w2.heap.size _ u nm _ (Row.made w2 _ [.string u, .string nm]) hs2.out).mono ?_
       rintro en w3 ⟨v, rfl, ⟨g, rfl, hg, hr⟩, hb⟩
       have R3 : Hid (Row w3 (w.heap.size + 1) 28 zeroC) := (R2.out.alloc _).below hb (R2.out.alloc _).lt
       have B3 : Hid (Below w.heap.size w w3) := below_more (B2.out.alloc B2.out.size _) hb (by have := B2.out.size; simp <;> omega)
       have hg3 : Hid (w.heap.size + 1 < g) := by have := R2.out.lt; simp at hg; exact Lib.hid (by omega)
       have F3 := Lib.hid hr
       clear hr hb hg B2 R2)
    | (refine put_dat (.tmp 6) (.tmp 80) (w.heap.size + 1) zeroC zeroD.cells _ rfl rfl rfl rfl R3.out rfl rfl rfl ?_; intro w5 hr5 hb5 hf5
       have B5 : Hid (Below w.heap.size w w5) := B3.out.trans (hb5 _ (by omega))
       have R5 := Lib.hid hr5
       have F5 : Hid (Row w5 g 35 _) := (hf5 g (by have := hg3.out; omega)).trans F3.out
       clear B3 R3 hb5 hr5 hf5 F3))
  refine bodyPost_ret (ret_ct rfl _ _ (w.heap.size + 1) _ rfl R5.out rfl) rfl ⟨_, rfl, ⟨g, rfl, by have := hg3.out; omega, F5.out⟩, B5.out⟩
end Go.Proofs.YtehakhplglhkdaaGreatDoor
