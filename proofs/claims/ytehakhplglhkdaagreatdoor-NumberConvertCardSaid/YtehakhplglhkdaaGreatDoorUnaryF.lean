/- Minus of a float: number.Unary and guiseref6.Unary; what guiseref6 says of NaNs. Condition: the bits fit. -/
import Derived.Test.YtehakhplglhkdaaGreatDoorUnaryR
import Derived.Test.YtehakhplglhkdaaGreatDoorBin3
namespace Go.Proofs.YtehakhplglhkdaaGreatDoor
set_option linter.unusedVariables false
open Go.RowKit


theorem bits_and2047 (x : Int) (h0 : 0 ≤ x) : bits BinOp.and .u64 x 2047 = x % 2048 := by
  obtain ⟨n, rfl⟩ := Int.eq_ofNat_of_zero_le h0
  show IntKind.u64.wrap (((BitVec.ofInt 64 (n : Int) &&& BitVec.ofInt 64 2047).toNat : Nat) : Int) = _
  rw [BitVec.toNat_and, show (BitVec.ofInt 64 2047).toNat = 2 ^ 11 - 1 from rfl, Nat.and_two_pow_sub_one_eq_mod, BitVec.toNat_ofInt]
  show ((((n : Int) % ((2 ^ 64 : Nat) : Int)).toNat % 2 ^ 11 : Nat) : Int) % 18446744073709551616 = _
  omega
theorem xor_u64 (x y : Int) : 0 ≤ bits BinOp.xor .u64 x y ∧ bits BinOp.xor .u64 x y < 18446744073709551616 := by
  have h : ∀ m : Int, 0 ≤ IntKind.u64.wrap m ∧ IntKind.u64.wrap m < 18446744073709551616 := fun m => by
    show 0 ≤ m % 18446744073709551616 ∧ m % 18446744073709551616 < 18446744073709551616
    omega
  exact h _
theorem isnan_any (f : Int) (h0 : 0 ≤ f) (h1 : f < 18446744073709551616) (w : World) : Calls Tryz.prog 67 #[.int .u64 f] w fun e w' => e = .returned (.bool (Ieee.double.read f.toNat).isNaN) ∧ w' = w := by
  rw [nan_bits]
  have ha := bits_and2047 (f / 4503599627370496) (by omega)
  have e2 : IntKind.u64.wrap (f * 4096) = f * 4096 % 18446744073709551616 := rfl
  by_cases c1 : f / 4503599627370496 % 2048 = 2047
  · by_cases c2 : f * 4096 % 18446744073709551616 = 0
    · have hd : decide (9218868437227405312 < f.toNat % 9223372036854775808) = false := by simp; omega
      rw [hd]
      rw [c2] at e2
      rw [c1] at ha
      clear hd c1 c2
      go_enter Tryz.func67, Tryz.ntmps67
      go_wp2
      go_returns
      exact ⟨rfl, rfl⟩
    · have hd : decide (9218868437227405312 < f.toNat % 9223372036854775808) = true := by simp; omega
      have e3 : (IntKind.u64.wrap (f * 4096) != 0) = true := by rw [e2]; simp [c2]
      rw [hd]
      rw [c1] at ha
      clear hd c1 c2 e2
      go_enter Tryz.func67, Tryz.ntmps67
      go_wp2
      go_returns
      exact ⟨rfl, rfl⟩
  · have hd : decide (9218868437227405312 < f.toNat % 9223372036854775808) = false := by simp; omega
    have e3 : (bits BinOp.and .u64 (f / 4503599627370496) 2047 == 2047) = false := by rw [ha]; simp [c1]
    rw [hd]
    clear hd c1 e2 ha
    go_enter Tryz.func67, Tryz.ntmps67
    go_wp2
    go_returns
    exact ⟨rfl, rfl⟩
theorem refbits_any (f : Int) (h0 : 0 ≤ f) (h1 : f < 18446744073709551616) (w : World) : Calls Tryz.prog 40 #[.int .u64 f] w fun e w' => e = .returned (.int .u64 (fixNan f.toNat)) ∧ w' = w := by
  have hi := Lib.hid fun w => isnan_any f h0 h1 w
  unfold fixNan
  have hf : ((f.toNat : Nat) : Int) = f := Int.toNat_of_nonneg h0
  rw [hf]
  clear hf h0 h1
  generalize (Ieee.double.read f.toNat).isNaN = b at *
  cases b with
  | true =>
    rw [if_pos rfl]
    go_enter Tryz.func40, Tryz.ntmps40
    go_wp2_with (first | (go_at_call 67; refine (hi.out _).mono ?_; rintro en w2 ⟨rfl, rfl⟩; clear hi))
    go_returns
    exact ⟨rfl, rfl⟩
  | false =>
    rw [if_neg (by simp)]
    go_enter Tryz.func40, Tryz.ntmps40
    go_wp2_with (first | (go_at_call 67; refine (hi.out _).mono ?_; rintro en w2 ⟨rfl, rfl⟩; clear hi))
    go_returns
    exact ⟨rfl, rfl⟩

set_option maxRecDepth 200000 in
set_option maxHeartbeats 2000000 in
theorem una_fneg (t s : ByteArray) (n f ro rf rl rc : Int) (pa ia : Option Addr) (pn pc iN ic : Nat) (w : World) : Calls Tryz.prog 12 #[.string ⟨#[45]⟩, (Dat.mk 3 t n f s ro rf rl rc pa pn pc ia iN ic).val] w fun e w' => e = .returned (.tuple #[(mk 3 t 0 (fixNan (bits BinOp.xor .u64 f 9223372036854775808).toNat) ⟨#[]⟩).val, .nilIface]) ∧ Below w.heap.size w w' := by
  have hF := fun w => float_any t (bits BinOp.xor .u64 f 9223372036854775808).toNat w
  generalize fixNan (bits BinOp.xor .u64 f 9223372036854775808).toNat = r at *
  unfold mk Dat.val at *
  go_enter Tryz.func12, Tryz.ntmps12
  go_wp2_with fail
  obtain ⟨w1, RA, RC, HB, e⟩ : ∃ w1, Row w1 w.heap.size 28 [.int .i64 3, .string t, .int .i64 n, .int .u64 f, .string s, .int .i64 ro, .int .i64 rf, .int .i64 rl, .int .i64 rc, .slice pa pn pc, .slice ia iN ic] ∧ Row w1 (w.heap.size + 1) 28 [.int .i64 0, .string ⟨#[]⟩, .int .i64 0, .int .u64 0, .string ⟨#[]⟩, .int .i64 0, .int .i64 0, .int .i64 0, .int .i64 0, .slice none 0 0, .slice none 0 0] ∧ Below w.heap.size w w1 ∧ ((w.alloc (.cells [.int .i64 3, .string t, .int .i64 n, .int .u64 f, .string s, .int .i64 ro, .int .i64 rf, .int .i64 rl, .int .i64 rc, .slice pa pn pc, .slice ia iN ic].toArray 28)).alloc (.cells [.int .i64 0, .string ⟨#[]⟩, .int .i64 0, .int .u64 0, .string ⟨#[]⟩, .int .i64 0, .int .i64 0, .int .i64 0, .int .i64 0, .slice none 0 0, .slice none 0 0].toArray 28)) = w1 :=
    ⟨_, (Row.made w 28 _).alloc _, row_atOne w _ 28 _, below2 w _ _, rfl⟩
  rw [e]
  clear e
  have k1 := RA.cell 1
  have k2 := RA.cell 3
  simp only [List.getElem?_cons_zero, List.getElem?_cons_succ] at k1 k2
  have n1 := World.new_ne _ _ k1
  have n2 := World.new_ne _ _ k2
  replace RA := Lib.hid RA
  replace RC := Lib.hid RC
  replace HB := Lib.hid HB
  go_region_held3 (fun w' => w'.cell? ⟨w.heap.size, 1, none⟩ = some (.string t) ∧ w'.cell? ⟨w.heap.size, 3, none⟩ = some (.int .u64 f)) (first | go_keep | exact ⟨k1, k2⟩) (first | (go_at_call 36; refine (hF _).mono ?_; rintro en w2 ⟨rfl, hb⟩; have RA2 := RA.out.drew.below hb RA.out.drew.lt; have RC2 := Lib.hid (RC.out.drew.below hb RC.out.drew.lt); have HB2 : Hid (Below w.heap.size w w2) := below_more (below_drew HB.out) hb HB.out.size; have k1 := RA2.cell 1; have k2 := RA2.cell 3; obtain ⟨c0, c1, c2, c3, c4, c5, c6, c7, c8, c9, c10, cf⟩ := row11 RC2.out; simp only [List.getElem?_cons_zero, List.getElem?_cons_succ] at k1 k2; have n1 := World.new_ne _ _ k1; have n2 := World.new_ne _ _ k2; clear RA2 hb))
  all_goals
    go_wp2
    exact bodyPost_ret (ret_ct rfl _ _ (w.heap.size + 1) _ rfl (set11 RC2.out) rfl) rfl ⟨rfl, below11 HB2.out (by omega)⟩
set_option maxRecDepth 200000 in
set_option maxHeartbeats 2000000 in
theorem unr_fneg (t s : ByteArray) (n f ro rf rl rc : Int) (pa ia : Option Addr) (pn pc iN ic : Nat) (w : World) : Calls Tryz.prog 13 #[.string ⟨#[45]⟩, (Dat.mk 3 t n f s ro rf rl rc pa pn pc ia iN ic).val] w fun e w' => e = .returned (.tuple #[(mk 3 t 0 (fixNan (bits BinOp.xor .u64 f 9223372036854775808).toNat) ⟨#[]⟩).val, .agg #[.string ⟨#[]⟩, .string ⟨#[]⟩]]) ∧ Below w.heap.size w w' := by
  have hB := Lib.hid fun w => refbits_any (bits BinOp.xor .u64 f 9223372036854775808) (xor_u64 _ _).1 (xor_u64 _ _).2 w
  generalize fixNan (bits BinOp.xor .u64 f 9223372036854775808).toNat = r at *
  unfold mk Dat.val at *
  go_enter Tryz.func13, Tryz.ntmps13
  go_wp2_with (first | (go_at_call 40; refine (hB.out _).mono ?_; rintro en w2 ⟨rfl, rfl⟩; clear hB))
  go_returns
  exact ⟨rfl, by go_grown⟩
end Go.Proofs.YtehakhplglhkdaaGreatDoor
