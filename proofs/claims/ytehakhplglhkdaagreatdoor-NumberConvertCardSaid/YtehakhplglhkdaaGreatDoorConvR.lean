/- guiseref6.Convert of any kind, name and datum. Conditions: the bits fit; the texts are short; a path is not long. -/
import Derived.Test.YtehakhplglhkdaaGreatDoorConvA
namespace Go.Proofs.YtehakhplglhkdaaGreatDoor
set_option linter.unusedVariables false
open Go.RowKit

theorem fl_fix (n : Int) : fixNan (floatOfInt .f64 n) = (floatOfInt .f64 n : Int) := by
  have h : (Ieee.double.read (floatOfInt .f64 n)).isNaN = false := by
    show (Ieee.double.read (Ieee.double.nearest (decide (n < 0)) n.natAbs 0)).isNaN = false
    rw [nan_bits]
    refine decide_eq_false ?_
    have e1 : Ieee.double.signWeight = 0x8000000000000000 := by decide
    have e3 : Ieee.double.infRung = 0x7FF0000000000000 := by decide
    have key : ∀ (b : Bool) (R : Nat), R ≤ 0x7FF0000000000000 → ¬ 0x7FF0000000000000 < Ieee.double.word b R % 0x8000000000000000 := by
      intro b R hR
      unfold Ieee.Format.word
      rw [e1]
      cases b <;> simp <;> omega
    unfold Ieee.Format.nearest
    split
    · exact key _ 0 (by omega)
    · dsimp only
      rw [e3]
      exact key _ _ (Nat.min_le_right _ _)
  unfold fixNan
  rw [h]
  rfl
theorem tobits_c (b : Nat) (w : World) : Calls Tryz.prog 51 #[.float .f64 b] w fun e w' => e = .returned (.int .u64 (b : Int)) ∧ w' = w := by
  go_enter Tryz.func51, Tryz.ntmps51
  go_wp2
  go_ret
  exact ⟨rfl, rfl⟩
set_option maxRecDepth 200000 in
set_option maxHeartbeats 4000000 in
theorem rcv_1 (u : ByteArray) (t s : ByteArray) (n f ro rf rl rc : Int) (pa ia : Option Addr) (pn pc iN ic : Nat) (w : World) : Calls Tryz.prog 21 #[.int .i64 1, .string u, (Dat.mk 1 t n f s ro rf rl rc pa pn pc ia iN ic).val] w fun e w' => ∃ A c, e = .returned (.tuple #[(Dat.mk 1 u n 0 ⟨#[]⟩ 0 0 0 0 A ([] : List Int).length c none 0 0).val, .agg #[.string ⟨#[]⟩, .string ⟨#[]⟩]]) ∧ OwnI w.heap.size w' (.slice A ([] : List Int).length c) ([] : List Int) ∧ Below w.heap.size w w' := by
  unfold Dat.val
  go_enter Tryz.func21, Tryz.ntmps21
  go_wp2
  go_returns
  exact ⟨none, 0, rfl, OwnI.nil _ _, by go_grown⟩
set_option maxRecDepth 200000 in
set_option maxHeartbeats 4000000 in
theorem rcv_2 (u : ByteArray) (t s : ByteArray) (n f ro rf rl rc : Int) (pa ia : Option Addr) (pn pc iN ic : Nat) (w : World) : Calls Tryz.prog 21 #[.int .i64 2, .string u, (Dat.mk 2 t n f s ro rf rl rc pa pn pc ia iN ic).val] w fun e w' => ∃ A c, e = .returned (.tuple #[(Dat.mk 2 u n 0 ⟨#[]⟩ 0 0 0 0 A ([] : List Int).length c none 0 0).val, .agg #[.string ⟨#[]⟩, .string ⟨#[]⟩]]) ∧ OwnI w.heap.size w' (.slice A ([] : List Int).length c) ([] : List Int) ∧ Below w.heap.size w w' := by
  unfold Dat.val
  go_enter Tryz.func21, Tryz.ntmps21
  go_wp2
  go_returns
  exact ⟨none, 0, rfl, OwnI.nil _ _, by go_grown⟩
set_option maxRecDepth 200000 in
set_option maxHeartbeats 4000000 in
theorem rcv_4 (u : ByteArray) (t s : ByteArray) (n f ro rf rl rc : Int) (pa ia : Option Addr) (pn pc iN ic : Nat) (w : World) : Calls Tryz.prog 21 #[.int .i64 4, .string u, (Dat.mk 4 t n f s ro rf rl rc pa pn pc ia iN ic).val] w fun e w' => ∃ A c, e = .returned (.tuple #[(Dat.mk 4 u 0 0 s 0 0 0 0 A ([] : List Int).length c none 0 0).val, .agg #[.string ⟨#[]⟩, .string ⟨#[]⟩]]) ∧ OwnI w.heap.size w' (.slice A ([] : List Int).length c) ([] : List Int) ∧ Below w.heap.size w w' := by
  unfold Dat.val
  go_enter Tryz.func21, Tryz.ntmps21
  go_wp2
  go_returns
  exact ⟨none, 0, rfl, OwnI.nil _ _, by go_grown⟩
set_option maxRecDepth 200000 in
set_option maxHeartbeats 4000000 in
theorem rcv_3 (u : ByteArray) (t s : ByteArray) (n f ro rf rl rc : Int) (pa ia : Option Addr) (pn pc iN ic : Nat) (w : World) (hf : 0 ≤ f ∧ f < 18446744073709551616) : Calls Tryz.prog 21 #[.int .i64 3, .string u, (Dat.mk 3 t n f s ro rf rl rc pa pn pc ia iN ic).val] w fun e w' => ∃ A c, e = .returned (.tuple #[(Dat.mk 3 u 0 (fixNan f.toNat) ⟨#[]⟩ 0 0 0 0 A ([] : List Int).length c none 0 0).val, .agg #[.string ⟨#[]⟩, .string ⟨#[]⟩]]) ∧ OwnI w.heap.size w' (.slice A ([] : List Int).length c) ([] : List Int) ∧ Below w.heap.size w w' := by
  have HT := Lib.hid fun w => refbits_any f hf.1 hf.2 w
  generalize (fixNan f.toNat) = r at *
  unfold Dat.val
  go_enter Tryz.func21, Tryz.ntmps21
  go_wp2_with (first | (go_at_call 40; refine (HT.out _).mono ?_; rintro en w2 ⟨rfl, rfl⟩; clear HT))
  go_returns
  exact ⟨none, 0, rfl, OwnI.nil _ _, by go_grown⟩
set_option maxRecDepth 200000 in
set_option maxHeartbeats 4000000 in
theorem rcv_fi (u : ByteArray) (t s : ByteArray) (n f ro rf rl rc : Int) (pa ia : Option Addr) (pn pc iN ic : Nat) (w : World) (hf : 0 ≤ f ∧ f < 18446744073709551616) : Calls Tryz.prog 21 #[.int .i64 2, .string u, (Dat.mk 3 t n f s ro rf rl rc pa pn pc ia iN ic).val] w fun e w' => ∃ A c, e = .returned (.tuple #[(Dat.mk 2 u (wholeOf f.toNat) 0 ⟨#[]⟩ 0 0 0 0 A ([] : List Int).length c none 0 0).val, .agg #[.string ⟨#[]⟩, .string ⟨#[]⟩]]) ∧ OwnI w.heap.size w' (.slice A ([] : List Int).length c) ([] : List Int) ∧ Below w.heap.size w w' := by
  have HT := Lib.hid fun w => refwhole_any f.toNat w (by omega)
  generalize wholeOf f.toNat = r at *
  rw [show ((f.toNat : Nat) : Int) = f by omega] at HT
  unfold Dat.val
  go_enter Tryz.func21, Tryz.ntmps21
  go_wp2_with (first | (go_at_call 53; refine (HT.out _).mono ?_; rintro en w2 ⟨rfl, rfl⟩; clear HT))
  go_returns
  exact ⟨none, 0, rfl, OwnI.nil _ _, by go_grown⟩
set_option maxRecDepth 200000 in
set_option maxHeartbeats 4000000 in
theorem rcv_if (u : ByteArray) (t s : ByteArray) (n f ro rf rl rc : Int) (pa ia : Option Addr) (pn pc iN ic : Nat) (w : World) : Calls Tryz.prog 21 #[.int .i64 3, .string u, (Dat.mk 2 t n f s ro rf rl rc pa pn pc ia iN ic).val] w fun e w' => ∃ A c, e = .returned (.tuple #[(Dat.mk 3 u 0 (fixNan (floatOfInt .f64 n)) ⟨#[]⟩ 0 0 0 0 A ([] : List Int).length c none 0 0).val, .agg #[.string ⟨#[]⟩, .string ⟨#[]⟩]]) ∧ OwnI w.heap.size w' (.slice A ([] : List Int).length c) ([] : List Int) ∧ Below w.heap.size w w' := by
  have HT := Lib.hid fun w => (tobits_c (floatOfInt .f64 n) w)
  rw [fl_fix]
  unfold Dat.val
  go_enter Tryz.func21, Tryz.ntmps21
  go_wp2_with (first | (go_at_call 51; refine (HT.out _).mono ?_; rintro en w2 ⟨rfl, rfl⟩; clear HT))
  go_returns
  exact ⟨none, 0, rfl, OwnI.nil _ _, by go_grown⟩
set_option maxRecDepth 200000 in
set_option maxHeartbeats 4000000 in
theorem rcv_p (u : ByteArray) (l : List Int) (k : Int) (t s : ByteArray) (n f ro rf rl rc : Int) (pa ia : Option Addr) (pc iN ic : Nat) (w : World) (h1 : decide (k < 1) = false) (h2 : decide ((7 : Int) < k) = false) (h3 : (k == 1) = false) (h4 : (k == 2) = false) (h5 : (k == 3) = false) (h6 : (k == 4) = false) (hA : IntsAt w pa l) (hn : pa = none → pc = 0) (hl : l.length ≤ 17592186043904) : Calls Tryz.prog 21 #[.int .i64 k, .string u, (Dat.mk k t n f s ro rf rl rc pa l.length pc ia iN ic).val] w fun e w' => ∃ A c, e = .returned (.tuple #[(Dat.mk k u 0 0 ⟨#[]⟩ ro rf rl rc A (l : List Int).length c none 0 0).val, .agg #[.string ⟨#[]⟩, .string ⟨#[]⟩]]) ∧ OwnI w.heap.size w' (.slice A l.length c) l ∧ Below w.heap.size w w' := by
  have HA := Lib.hid hA
  have HN := Lib.hid hn
  clear hA hn
  unfold Dat.val
  go_enter Tryz.func21, Tryz.ntmps21
  go_wp2_with (first
    | (refine put_at (.tmp 81) (.tmp 80) 25 (w.heap.size + 1 + 1 + 1) 5 28 [.int .i64 k, .string u, .int .i64 0, .int .u64 0, .string ⟨#[]⟩, .int .i64 0, .int .i64 0, .int .i64 0, .int .i64 0, .slice none 0 0, .slice none 0 0] [.int .i64 ro, .int .i64 rf, .int .i64 rl, .int .i64 rc, .slice pa l.length pc] _ _ rfl rfl rfl rfl rfl size25 (by simp [Value.oneCell']) (row_at3 w _ _ _ 28 [.int .i64 k, .string u, .int .i64 0, .int .u64 0, .string ⟨#[]⟩, .int .i64 0, .int .i64 0, .int .i64 0, .int .i64 0, .slice none 0 0, .slice none 0 0]) (by simp) ?_; intro w1 hr1 hb1 hf1
       have R8 : Hid (Row w1 (w.heap.size + 1 + 1 + 1) 28 [.int .i64 k, .string u, .int .i64 0, .int .u64 0, .string ⟨#[]⟩, .int .i64 ro, .int .i64 rf, .int .i64 rl, .int .i64 rc, .slice pa l.length pc, .slice none 0 0]) := hr1
       have R5 : Hid (Row w1 w.heap.size 28 [.int .i64 k, .string t, .int .i64 n, .int .u64 f, .string s, .int .i64 ro, .int .i64 rf, .int .i64 rl, .int .i64 rc, .slice pa l.length pc, .slice ia iN ic]) := (hf1 w.heap.size (by omega)).trans ((((Row.made w 28 [.int .i64 k, .string t, .int .i64 n, .int .u64 f, .string s, .int .i64 ro, .int .i64 rf, .int .i64 rl, .int .i64 rc, .slice pa l.length pc, .slice ia iN ic]).alloc _).alloc _).alloc _)
       have R6 : Hid (Row w1 (w.heap.size + 1) 28 zeroC) := (hf1 (w.heap.size + 1) (by omega)).trans (((row_atOne w _ 28 zeroC).alloc _).alloc _)
       have R7 : Hid (Row w1 (w.heap.size + 1 + 1) 35 [.string ⟨#[]⟩, .string ⟨#[]⟩]) := (hf1 (w.heap.size + 1 + 1) (by omega)).trans ((row_at2 w _ _ 35 [.string ⟨#[]⟩, .string ⟨#[]⟩]).alloc _)
       have B1 : Hid (Below w.heap.size w w1) := (below4 w _ _ _ _).trans (hb1 w.heap.size (by omega))
       obtain ⟨p0, p1, p2, p3, p4, p5, p6, p7, p8, p9, p10, pf⟩ := row11 R5.out; have pl := R5.out.lt
       clear hr1 hb1 hf1)
    | (refine copy_i _ _ pa pc l _ rfl rfl rfl rfl HN.out (HA.out.below B1.out) (by omega) ?_; intro A c w2 hw2 hb2
       have O2 := Lib.hid hw2
       have L2 : Hid (w.heap.size + 1 + 1 + 1 < w1.heap.size) := R8.out.lt
       have B2 : Hid (Below w.heap.size w w2) := below_more B1.out hb2 B1.out.size
       have R82 : Hid (Row w2 (w.heap.size + 1 + 1 + 1) 28 [.int .i64 k, .string u, .int .i64 0, .int .u64 0, .string ⟨#[]⟩, .int .i64 ro, .int .i64 rf, .int .i64 rl, .int .i64 rc, .slice pa l.length pc, .slice none 0 0]) := R8.out.below hb2 R8.out.lt
       have R62 : Hid (Row w2 (w.heap.size + 1) 28 zeroC) := R6.out.below hb2 R6.out.lt
       have R72 : Hid (Row w2 (w.heap.size + 1 + 1) 35 [.string ⟨#[]⟩, .string ⟨#[]⟩]) := R7.out.below hb2 R7.out.lt
       clear hw2 hb2 R8 R6 R7 R5 B1 HA HN p0 p1 p2 p3 p4 p5 p6 p7 p8 p9 p10 pf pl
       obtain ⟨q0, q1, q2, q3, q4, q5, q6, q7, q8, q9, q10, qf⟩ := row11 R82.out; have ql := R82.out.lt)
    | (have lo := L2.out; refine put_at (.tmp 87) (.tmp 85) 23 (w.heap.size + 1 + 1 + 1) 9 28 [.int .i64 k, .string u, .int .i64 0, .int .u64 0, .string ⟨#[]⟩, .int .i64 ro, .int .i64 rf, .int .i64 rl, .int .i64 rc, .slice pa l.length pc, .slice none 0 0] [.slice A l.length c] _ _ rfl rfl rfl rfl rfl size23 (by simp [Value.oneCell']) R82.out (by simp) ?_; intro w3 hr3 hb3 hf3
       have R83 : Hid (Row w3 (w.heap.size + 1 + 1 + 1) 28 [.int .i64 k, .string u, .int .i64 0, .int .u64 0, .string ⟨#[]⟩, .int .i64 ro, .int .i64 rf, .int .i64 rl, .int .i64 rc, .slice A l.length c, .slice none 0 0]) := hr3
       have R63 : Hid (Row w3 (w.heap.size + 1) 28 zeroC) := (hf3 (w.heap.size + 1) (by omega)).trans R62.out
       have R73 : Hid (Row w3 (w.heap.size + 1 + 1) 35 [.string ⟨#[]⟩, .string ⟨#[]⟩]) := (hf3 (w.heap.size + 1 + 1) (by omega)).trans R72.out
       have B3 : Hid (Below w.heap.size w w3) := B2.out.trans (hb3 w.heap.size (by omega))
       have O3 : Hid (OwnI w1.heap.size w3 (.slice A l.length c) l) := own_same O2.out (fun g hg => hf3 g (by have := (O2.out.lt hg).1; omega))
       clear hr3 hb3 hf3 R82 R62 R72 B2 O2 q0 q1 q2 q3 q4 q5 q6 q7 q8 q9 q10 qf ql
       obtain ⟨p0, p1, p2, p3, p4, p5, p6, p7, p8, p9, p10, pf⟩ := row11 R83.out; have pl := R83.out.lt)
    | (have lo := L2.out; refine put_dat (.tmp 6) (.tmp 113) (w.heap.size + 1) zeroC [.int .i64 k, .string u, .int .i64 0, .int .u64 0, .string ⟨#[]⟩, .int .i64 ro, .int .i64 rf, .int .i64 rl, .int .i64 rc, .slice A l.length c, .slice none 0 0] _ rfl rfl rfl rfl R63.out rfl rfl rfl ?_; intro w5 hr5 hb5 hf5
       have B5 : Hid (Below w.heap.size w w5) := B3.out.trans (hb5 _ (by omega))
       have R5 := Lib.hid hr5
       have R75 : Hid (Row w5 (w.heap.size + 1 + 1) 35 [.string ⟨#[]⟩, .string ⟨#[]⟩]) := (hf5 (w.heap.size + 1 + 1) (by omega)).trans R73.out
       have O5 : Hid (OwnI w1.heap.size w5 (.slice A l.length c) l) := own_same O3.out (fun g hg => hf5 g (by have := (O3.out.lt hg).1; omega))
       clear B3 R63 R73 R83 hb5 hr5 hf5 O3 p0 p1 p2 p3 p4 p5 p6 p7 p8 p9 p10 pf pl)
    | (have lo := L2.out; refine put_flt (.tmp 7) (.tmp 114) (w.heap.size + 1 + 1) [.string ⟨#[]⟩, .string ⟨#[]⟩] [.string ⟨#[]⟩, .string ⟨#[]⟩] _ rfl rfl rfl rfl R75.out rfl rfl rfl ?_; intro w6 hr6 hb6 hf6
       have B6 : Hid (Below w.heap.size w w6) := B5.out.trans (hb6 _ (by omega))
       have S6 := Lib.hid hr6
       have R6 : Hid (Row w6 (w.heap.size + 1) 28 [.int .i64 k, .string u, .int .i64 0, .int .u64 0, .string ⟨#[]⟩, .int .i64 ro, .int .i64 rf, .int .i64 rl, .int .i64 rc, .slice A l.length c, .slice none 0 0]) := (hf6 (w.heap.size + 1) (by omega)).trans R5.out
       have O6 : Hid (OwnI w.heap.size w6 (.slice A l.length c) l) := OwnI.low (own_same O5.out (fun g hg => hf6 g (by have := (O5.out.lt hg).1; omega))) (by omega)
       clear B5 R5 R75 hb6 hr6 hf6 O5))
  exact bodyPost_ret (ret_cc rfl _ _ (w.heap.size + 1) _ (w.heap.size + 1 + 1) _ rfl rfl R6.out S6.out rfl rfl) rfl ⟨A, c, rfl, O6.out, B6.out⟩
set_option maxRecDepth 200000 in
set_option maxHeartbeats 4000000 in
theorem rcv_no_lo (u : ByteArray) (k dk : Int) (t s : ByteArray) (n f ro rf rl rc : Int) (pa ia : Option Addr) (pn pc iN ic : Nat) (w : World) (h1 : decide (k < 1) = true) (hs : u.size + t.size ≤ 281474976710600) : Calls Tryz.prog 21 #[.int .i64 k, .string u, (Dat.mk dk t n f s ro rf rl rc pa pn pc ia iN ic).val] w fun e w' => e = .returned (.tuple #[zeroD.val, .agg #[.string sOperand, .string (u ++ ⟨#[32]⟩ ++ nameOf (Dat.mk dk t n f s ro rf rl rc pa pn pc ia iN ic))]]) ∧ Below w.heap.size w w' := by
  have hn := fun w => refname_any (Dat.mk dk t n f s ro rf rl rc pa pn pc ia iN ic) w (by simp only; omega)
  have hz := name_size (Dat.mk dk t n f s ro rf rl rc pa pn pc ia iN ic)
  generalize nameOf (Dat.mk dk t n f s ro rf rl rc pa pn pc ia iN ic) = nm at *
  have hs2 : (u.size : Int) + 1 ≤ 9223372036854775807 := by simp only at hz; omega
  have hs3 : ((u ++ ⟨#[32]⟩ : ByteArray).size : Int) + (nm.size : Int) ≤ 9223372036854775807 := by rw [ByteArray.size_append]; simp only at hz; show ((u.size + 1 : Nat) : Int) + _ ≤ _; omega
  unfold Dat.val at *
  have HN := Lib.hid hn
  clear hn hz hs
  go_enter Tryz.func21, Tryz.ntmps21
  go_wp2_with (first
    | (go_at_call 42; refine (HN.out _).mono ?_; rintro en w2 ⟨rfl, hb⟩
       have R2 : Hid (Row w2 (w.heap.size + 1) 28 zeroC) := (((row_atOne w _ 28 zeroC).alloc _).alloc _).below hb (by simp <;> omega)
       have S2 : Hid (Row w2 (w.heap.size + 1 + 1) 35 [.string ⟨#[]⟩, .string ⟨#[]⟩]) := ((row_at2 w _ _ 35 [.string ⟨#[]⟩, .string ⟨#[]⟩]).alloc _).below hb (by simp <;> omega)
       have B2 : Hid (Below w.heap.size w w2) := below_more (below4 w _ _ _ _) hb (by simp <;> omega)
       clear hb HN)
    | (go_at_call 41; refine (reffault_any _ _ _).mono ?_; rintro en w3 ⟨rfl, hb⟩
       have R3 : Hid (Row w3 (w.heap.size + 1) 28 zeroC) := R2.out.below hb R2.out.lt
       have S3 : Hid (Row w3 (w.heap.size + 1 + 1) 35 [.string ⟨#[]⟩, .string ⟨#[]⟩]) := S2.out.below hb S2.out.lt
       have B3 : Hid (Below w.heap.size w w3) := below_more B2.out hb B2.out.size
       clear hb B2 R2 S2)
    | (refine put_dat (.tmp 6) (.tmp 26) (w.heap.size + 1) zeroC zeroD.cells _ rfl rfl rfl rfl R3.out rfl rfl rfl ?_; intro w5 hr5 hb5 hf5
       have B5 : Hid (Below w.heap.size w w5) := B3.out.trans (hb5 _ (by omega))
       have R5 := Lib.hid hr5
       have S5 : Hid (Row w5 (w.heap.size + 1 + 1) 35 [.string ⟨#[]⟩, .string ⟨#[]⟩]) := (hf5 _ (by omega)).trans S3.out
       clear B3 R3 hb5 hr5 hf5 S3)
    | (refine put_flt (.tmp 7) (.tmp 32) (w.heap.size + 1 + 1) _ _ _ rfl rfl rfl rfl S5.out rfl rfl rfl ?_; intro w6 hr6 hb6 hf6
       have B6 : Hid (Below w.heap.size w w6) := B5.out.trans (hb6 _ (by omega))
       have S6 := Lib.hid hr6
       have R6 : Hid (Row w6 (w.heap.size + 1) 28 zeroD.cells) := (hf6 _ (by omega)).trans R5.out
       clear B5 R5 S5 hb6 hr6 hf6))
  exact bodyPost_ret (ret_cc rfl _ _ (w.heap.size + 1) _ (w.heap.size + 1 + 1) _ rfl rfl R6.out S6.out rfl rfl) rfl ⟨rfl, B6.out⟩
set_option maxRecDepth 200000 in
set_option maxHeartbeats 4000000 in
theorem rcv_no_hi (u : ByteArray) (k dk : Int) (t s : ByteArray) (n f ro rf rl rc : Int) (pa ia : Option Addr) (pn pc iN ic : Nat) (w : World) (h1 : decide (k < 1) = false) (h2 : decide ((7 : Int) < k) = true) (hs : u.size + t.size ≤ 281474976710600) : Calls Tryz.prog 21 #[.int .i64 k, .string u, (Dat.mk dk t n f s ro rf rl rc pa pn pc ia iN ic).val] w fun e w' => e = .returned (.tuple #[zeroD.val, .agg #[.string sOperand, .string (u ++ ⟨#[32]⟩ ++ nameOf (Dat.mk dk t n f s ro rf rl rc pa pn pc ia iN ic))]]) ∧ Below w.heap.size w w' := by
  have hn := fun w => refname_any (Dat.mk dk t n f s ro rf rl rc pa pn pc ia iN ic) w (by simp only; omega)
  have hz := name_size (Dat.mk dk t n f s ro rf rl rc pa pn pc ia iN ic)
  generalize nameOf (Dat.mk dk t n f s ro rf rl rc pa pn pc ia iN ic) = nm at *
  have hs2 : (u.size : Int) + 1 ≤ 9223372036854775807 := by simp only at hz; omega
  have hs3 : ((u ++ ⟨#[32]⟩ : ByteArray).size : Int) + (nm.size : Int) ≤ 9223372036854775807 := by rw [ByteArray.size_append]; simp only at hz; show ((u.size + 1 : Nat) : Int) + _ ≤ _; omega
  unfold Dat.val at *
  have HN := Lib.hid hn
  clear hn hz hs
  go_enter Tryz.func21, Tryz.ntmps21
  go_wp2_with (first
    | (go_at_call 42; refine (HN.out _).mono ?_; rintro en w2 ⟨rfl, hb⟩
       have R2 : Hid (Row w2 (w.heap.size + 1) 28 zeroC) := (((row_atOne w _ 28 zeroC).alloc _).alloc _).below hb (by simp <;> omega)
       have S2 : Hid (Row w2 (w.heap.size + 1 + 1) 35 [.string ⟨#[]⟩, .string ⟨#[]⟩]) := ((row_at2 w _ _ 35 [.string ⟨#[]⟩, .string ⟨#[]⟩]).alloc _).below hb (by simp <;> omega)
       have B2 : Hid (Below w.heap.size w w2) := below_more (below4 w _ _ _ _) hb (by simp <;> omega)
       clear hb HN)
    | (go_at_call 41; refine (reffault_any _ _ _).mono ?_; rintro en w3 ⟨rfl, hb⟩
       have R3 : Hid (Row w3 (w.heap.size + 1) 28 zeroC) := R2.out.below hb R2.out.lt
       have S3 : Hid (Row w3 (w.heap.size + 1 + 1) 35 [.string ⟨#[]⟩, .string ⟨#[]⟩]) := S2.out.below hb S2.out.lt
       have B3 : Hid (Below w.heap.size w w3) := below_more B2.out hb B2.out.size
       clear hb B2 R2 S2)
    | (refine put_dat (.tmp 6) (.tmp 26) (w.heap.size + 1) zeroC zeroD.cells _ rfl rfl rfl rfl R3.out rfl rfl rfl ?_; intro w5 hr5 hb5 hf5
       have B5 : Hid (Below w.heap.size w w5) := B3.out.trans (hb5 _ (by omega))
       have R5 := Lib.hid hr5
       have S5 : Hid (Row w5 (w.heap.size + 1 + 1) 35 [.string ⟨#[]⟩, .string ⟨#[]⟩]) := (hf5 _ (by omega)).trans S3.out
       clear B3 R3 hb5 hr5 hf5 S3)
    | (refine put_flt (.tmp 7) (.tmp 32) (w.heap.size + 1 + 1) _ _ _ rfl rfl rfl rfl S5.out rfl rfl rfl ?_; intro w6 hr6 hb6 hf6
       have B6 : Hid (Below w.heap.size w w6) := B5.out.trans (hb6 _ (by omega))
       have S6 := Lib.hid hr6
       have R6 : Hid (Row w6 (w.heap.size + 1) 28 zeroD.cells) := (hf6 _ (by omega)).trans R5.out
       clear B5 R5 S5 hb6 hr6 hf6))
  exact bodyPost_ret (ret_cc rfl _ _ (w.heap.size + 1) _ (w.heap.size + 1 + 1) _ rfl rfl R6.out S6.out rfl rfl) rfl ⟨rfl, B6.out⟩
set_option maxRecDepth 200000 in
set_option maxHeartbeats 4000000 in
theorem rcv_no_two (u : ByteArray) (dk : Int) (t s : ByteArray) (n f ro rf rl rc : Int) (pa ia : Option Addr) (pn pc iN ic : Nat) (w : World) (h3 : ((2 : Int) == dk) = false) (h4 : (dk == 3) = false) (hs : u.size + t.size ≤ 281474976710600) : Calls Tryz.prog 21 #[.int .i64 2, .string u, (Dat.mk dk t n f s ro rf rl rc pa pn pc ia iN ic).val] w fun e w' => e = .returned (.tuple #[zeroD.val, .agg #[.string sOperand, .string (u ++ ⟨#[32]⟩ ++ nameOf (Dat.mk dk t n f s ro rf rl rc pa pn pc ia iN ic))]]) ∧ Below w.heap.size w w' := by
  have hn := fun w => refname_any (Dat.mk dk t n f s ro rf rl rc pa pn pc ia iN ic) w (by simp only; omega)
  have hz := name_size (Dat.mk dk t n f s ro rf rl rc pa pn pc ia iN ic)
  generalize nameOf (Dat.mk dk t n f s ro rf rl rc pa pn pc ia iN ic) = nm at *
  have hs2 : (u.size : Int) + 1 ≤ 9223372036854775807 := by simp only at hz; omega
  have hs3 : ((u ++ ⟨#[32]⟩ : ByteArray).size : Int) + (nm.size : Int) ≤ 9223372036854775807 := by rw [ByteArray.size_append]; simp only at hz; show ((u.size + 1 : Nat) : Int) + _ ≤ _; omega
  unfold Dat.val at *
  have HN := Lib.hid hn
  clear hn hz hs
  go_enter Tryz.func21, Tryz.ntmps21
  go_wp2_with (first
    | (go_at_call 42; refine (HN.out _).mono ?_; rintro en w2 ⟨rfl, hb⟩
       have R2 : Hid (Row w2 (w.heap.size + 1) 28 zeroC) := (((row_atOne w _ 28 zeroC).alloc _).alloc _).below hb (by simp <;> omega)
       have S2 : Hid (Row w2 (w.heap.size + 1 + 1) 35 [.string ⟨#[]⟩, .string ⟨#[]⟩]) := ((row_at2 w _ _ 35 [.string ⟨#[]⟩, .string ⟨#[]⟩]).alloc _).below hb (by simp <;> omega)
       have B2 : Hid (Below w.heap.size w w2) := below_more (below4 w _ _ _ _) hb (by simp <;> omega)
       clear hb HN)
    | (go_at_call 41; refine (reffault_any _ _ _).mono ?_; rintro en w3 ⟨rfl, hb⟩
       have R3 : Hid (Row w3 (w.heap.size + 1) 28 zeroC) := R2.out.below hb R2.out.lt
       have S3 : Hid (Row w3 (w.heap.size + 1 + 1) 35 [.string ⟨#[]⟩, .string ⟨#[]⟩]) := S2.out.below hb S2.out.lt
       have B3 : Hid (Below w.heap.size w w3) := below_more B2.out hb B2.out.size
       clear hb B2 R2 S2)
    | (refine put_dat (.tmp 6) (.tmp 12) (w.heap.size + 1) zeroC zeroD.cells _ rfl rfl rfl rfl R3.out rfl rfl rfl ?_; intro w5 hr5 hb5 hf5
       have B5 : Hid (Below w.heap.size w w5) := B3.out.trans (hb5 _ (by omega))
       have R5 := Lib.hid hr5
       have S5 : Hid (Row w5 (w.heap.size + 1 + 1) 35 [.string ⟨#[]⟩, .string ⟨#[]⟩]) := (hf5 _ (by omega)).trans S3.out
       clear B3 R3 hb5 hr5 hf5 S3)
    | (refine put_flt (.tmp 7) (.tmp 18) (w.heap.size + 1 + 1) _ _ _ rfl rfl rfl rfl S5.out rfl rfl rfl ?_; intro w6 hr6 hb6 hf6
       have B6 : Hid (Below w.heap.size w w6) := B5.out.trans (hb6 _ (by omega))
       have S6 := Lib.hid hr6
       have R6 : Hid (Row w6 (w.heap.size + 1) 28 zeroD.cells) := (hf6 _ (by omega)).trans R5.out
       clear B5 R5 S5 hb6 hr6 hf6))
  exact bodyPost_ret (ret_cc rfl _ _ (w.heap.size + 1) _ (w.heap.size + 1 + 1) _ rfl rfl R6.out S6.out rfl rfl) rfl ⟨rfl, B6.out⟩
set_option maxRecDepth 200000 in
set_option maxHeartbeats 4000000 in
theorem rcv_no_three (u : ByteArray) (dk : Int) (t s : ByteArray) (n f ro rf rl rc : Int) (pa ia : Option Addr) (pn pc iN ic : Nat) (w : World) (h3 : ((3 : Int) == dk) = false) (h4 : (dk == 2) = false) (hs : u.size + t.size ≤ 281474976710600) : Calls Tryz.prog 21 #[.int .i64 3, .string u, (Dat.mk dk t n f s ro rf rl rc pa pn pc ia iN ic).val] w fun e w' => e = .returned (.tuple #[zeroD.val, .agg #[.string sOperand, .string (u ++ ⟨#[32]⟩ ++ nameOf (Dat.mk dk t n f s ro rf rl rc pa pn pc ia iN ic))]]) ∧ Below w.heap.size w w' := by
  have hn := fun w => refname_any (Dat.mk dk t n f s ro rf rl rc pa pn pc ia iN ic) w (by simp only; omega)
  have hz := name_size (Dat.mk dk t n f s ro rf rl rc pa pn pc ia iN ic)
  generalize nameOf (Dat.mk dk t n f s ro rf rl rc pa pn pc ia iN ic) = nm at *
  have hs2 : (u.size : Int) + 1 ≤ 9223372036854775807 := by simp only at hz; omega
  have hs3 : ((u ++ ⟨#[32]⟩ : ByteArray).size : Int) + (nm.size : Int) ≤ 9223372036854775807 := by rw [ByteArray.size_append]; simp only at hz; show ((u.size + 1 : Nat) : Int) + _ ≤ _; omega
  unfold Dat.val at *
  have HN := Lib.hid hn
  clear hn hz hs
  go_enter Tryz.func21, Tryz.ntmps21
  go_wp2_with (first
    | (go_at_call 42; refine (HN.out _).mono ?_; rintro en w2 ⟨rfl, hb⟩
       have R2 : Hid (Row w2 (w.heap.size + 1) 28 zeroC) := (((row_atOne w _ 28 zeroC).alloc _).alloc _).below hb (by simp <;> omega)
       have S2 : Hid (Row w2 (w.heap.size + 1 + 1) 35 [.string ⟨#[]⟩, .string ⟨#[]⟩]) := ((row_at2 w _ _ 35 [.string ⟨#[]⟩, .string ⟨#[]⟩]).alloc _).below hb (by simp <;> omega)
       have B2 : Hid (Below w.heap.size w w2) := below_more (below4 w _ _ _ _) hb (by simp <;> omega)
       clear hb HN)
    | (go_at_call 41; refine (reffault_any _ _ _).mono ?_; rintro en w3 ⟨rfl, hb⟩
       have R3 : Hid (Row w3 (w.heap.size + 1) 28 zeroC) := R2.out.below hb R2.out.lt
       have S3 : Hid (Row w3 (w.heap.size + 1 + 1) 35 [.string ⟨#[]⟩, .string ⟨#[]⟩]) := S2.out.below hb S2.out.lt
       have B3 : Hid (Below w.heap.size w w3) := below_more B2.out hb B2.out.size
       clear hb B2 R2 S2)
    | (refine put_dat (.tmp 6) (.tmp 12) (w.heap.size + 1) zeroC zeroD.cells _ rfl rfl rfl rfl R3.out rfl rfl rfl ?_; intro w5 hr5 hb5 hf5
       have B5 : Hid (Below w.heap.size w w5) := B3.out.trans (hb5 _ (by omega))
       have R5 := Lib.hid hr5
       have S5 : Hid (Row w5 (w.heap.size + 1 + 1) 35 [.string ⟨#[]⟩, .string ⟨#[]⟩]) := (hf5 _ (by omega)).trans S3.out
       clear B3 R3 hb5 hr5 hf5 S3)
    | (refine put_flt (.tmp 7) (.tmp 18) (w.heap.size + 1 + 1) _ _ _ rfl rfl rfl rfl S5.out rfl rfl rfl ?_; intro w6 hr6 hb6 hf6
       have B6 : Hid (Below w.heap.size w w6) := B5.out.trans (hb6 _ (by omega))
       have S6 := Lib.hid hr6
       have R6 : Hid (Row w6 (w.heap.size + 1) 28 zeroD.cells) := (hf6 _ (by omega)).trans R5.out
       clear B5 R5 S5 hb6 hr6 hf6))
  exact bodyPost_ret (ret_cc rfl _ _ (w.heap.size + 1) _ (w.heap.size + 1 + 1) _ rfl rfl R6.out S6.out rfl rfl) rfl ⟨rfl, B6.out⟩
set_option maxRecDepth 200000 in
set_option maxHeartbeats 4000000 in
theorem rcv_no_other (u : ByteArray) (k dk : Int) (t s : ByteArray) (n f ro rf rl rc : Int) (pa ia : Option Addr) (pn pc iN ic : Nat) (w : World) (h1 : decide (k < 1) = false) (h2 : decide ((7 : Int) < k) = false) (h3 : (k == dk) = false) (h4 : (k == 2) = false) (h5 : (k == 3) = false) (hs : u.size + t.size ≤ 281474976710600) : Calls Tryz.prog 21 #[.int .i64 k, .string u, (Dat.mk dk t n f s ro rf rl rc pa pn pc ia iN ic).val] w fun e w' => e = .returned (.tuple #[zeroD.val, .agg #[.string sOperand, .string (u ++ ⟨#[32]⟩ ++ nameOf (Dat.mk dk t n f s ro rf rl rc pa pn pc ia iN ic))]]) ∧ Below w.heap.size w w' := by
  have hn := fun w => refname_any (Dat.mk dk t n f s ro rf rl rc pa pn pc ia iN ic) w (by simp only; omega)
  have hz := name_size (Dat.mk dk t n f s ro rf rl rc pa pn pc ia iN ic)
  generalize nameOf (Dat.mk dk t n f s ro rf rl rc pa pn pc ia iN ic) = nm at *
  have hs2 : (u.size : Int) + 1 ≤ 9223372036854775807 := by simp only at hz; omega
  have hs3 : ((u ++ ⟨#[32]⟩ : ByteArray).size : Int) + (nm.size : Int) ≤ 9223372036854775807 := by rw [ByteArray.size_append]; simp only at hz; show ((u.size + 1 : Nat) : Int) + _ ≤ _; omega
  unfold Dat.val at *
  have HN := Lib.hid hn
  clear hn hz hs
  go_enter Tryz.func21, Tryz.ntmps21
  go_wp2_with (first
    | (go_at_call 42; refine (HN.out _).mono ?_; rintro en w2 ⟨rfl, hb⟩
       have R2 : Hid (Row w2 (w.heap.size + 1) 28 zeroC) := (((row_atOne w _ 28 zeroC).alloc _).alloc _).below hb (by simp <;> omega)
       have S2 : Hid (Row w2 (w.heap.size + 1 + 1) 35 [.string ⟨#[]⟩, .string ⟨#[]⟩]) := ((row_at2 w _ _ 35 [.string ⟨#[]⟩, .string ⟨#[]⟩]).alloc _).below hb (by simp <;> omega)
       have B2 : Hid (Below w.heap.size w w2) := below_more (below4 w _ _ _ _) hb (by simp <;> omega)
       clear hb HN)
    | (go_at_call 41; refine (reffault_any _ _ _).mono ?_; rintro en w3 ⟨rfl, hb⟩
       have R3 : Hid (Row w3 (w.heap.size + 1) 28 zeroC) := R2.out.below hb R2.out.lt
       have S3 : Hid (Row w3 (w.heap.size + 1 + 1) 35 [.string ⟨#[]⟩, .string ⟨#[]⟩]) := S2.out.below hb S2.out.lt
       have B3 : Hid (Below w.heap.size w w3) := below_more B2.out hb B2.out.size
       clear hb B2 R2 S2)
    | (refine put_dat (.tmp 6) (.tmp 12) (w.heap.size + 1) zeroC zeroD.cells _ rfl rfl rfl rfl R3.out rfl rfl rfl ?_; intro w5 hr5 hb5 hf5
       have B5 : Hid (Below w.heap.size w w5) := B3.out.trans (hb5 _ (by omega))
       have R5 := Lib.hid hr5
       have S5 : Hid (Row w5 (w.heap.size + 1 + 1) 35 [.string ⟨#[]⟩, .string ⟨#[]⟩]) := (hf5 _ (by omega)).trans S3.out
       clear B3 R3 hb5 hr5 hf5 S3)
    | (refine put_flt (.tmp 7) (.tmp 18) (w.heap.size + 1 + 1) _ _ _ rfl rfl rfl rfl S5.out rfl rfl rfl ?_; intro w6 hr6 hb6 hf6
       have B6 : Hid (Below w.heap.size w w6) := B5.out.trans (hb6 _ (by omega))
       have S6 := Lib.hid hr6
       have R6 : Hid (Row w6 (w.heap.size + 1) 28 zeroD.cells) := (hf6 _ (by omega)).trans R5.out
       clear B5 R5 S5 hb6 hr6 hf6))
  exact bodyPost_ret (ret_cc rfl _ _ (w.heap.size + 1) _ (w.heap.size + 1 + 1) _ rfl rfl R6.out S6.out rfl rfl) rfl ⟨rfl, B6.out⟩
end Go.Proofs.YtehakhplglhkdaaGreatDoor
