/- number.Float of any text. Conditions: what three of the package's variables hold; the text is not great. -/
import Derived.Test.YtehakhplglhkdaaGreatDoorReadF
namespace Go.Proofs.YtehakhplglhkdaaGreatDoor
set_option linter.unusedVariables false
open Go.RowKit

theorem ext_front (s : ByteArray) (i : Nat) : (s.extract 0 i).data.toList = s.data.toList.take i := by
  rw [ByteArray.data_extract]
  simp
theorem ext_back (s : ByteArray) (i : Nat) : (s.extract i s.size).data.toList = s.data.toList.drop i := by
  rw [ByteArray.data_extract]
  simp only [Array.toList_extract, List.extract_eq_take_drop]
  exact List.take_of_length_le (by rw [List.length_drop, size_list]; omega)
theorem one_more (y : ByteArray) : ((⟨#[49]⟩ : ByteArray) ++ y).data.toList = 49 :: y.data.toList := by
  rw [ByteArray.data_append]
  simp
theorem dig_one (b : List UInt8) : Dig (49 :: b) ↔ ∀ c ∈ b, isD c := by
  unfold Dig
  constructor
  · rintro ⟨h, _⟩ c hc
    exact h c (by simp [hc])
  · intro h
    refine ⟨fun c hc => ?_, by simp, .inr (by show (49 : UInt8).toNat ≠ 48; decide)⟩
    rcases List.mem_cons.1 hc with rfl | hc
    · decide
    · exact h c hc
theorem floOut_no (q : Nat) : floOut false q = .tuple #[(mk 0 ⟨#[]⟩ 0 0 ⟨#[]⟩).val, .bool false] := rfl
theorem floOut_yes (q : Nat) : floOut true q = .tuple #[(mk 3 ⟨#[102, 108, 111, 97, 116]⟩ 0 (q : Int) ⟨#[]⟩).val, .bool true] := rfl
set_option maxRecDepth 200000 in
set_option maxHeartbeats 4000000 in
theorem nf_F1 (s x y : ByteArray) (w : World) (hx : x.size ≤ 140737488355328) (hy0 : y.size ≤ 140737488355328) (hc : ∀ w, Calls Tryz.prog 56 #[.string s, .string ⟨#[46]⟩] w fun e w' => e = .returned (.tuple #[.string x, .string y, .bool false]) ∧ ∃ n, w.drewN n = w') : Calls Tryz.prog 26 #[.string s] w fun e w' => e = .returned (floOut false 0) ∧ Below w.heap.size w w' := by
  have HC := Lib.hid hc
  clear hc
  rw [floOut_no]
  unfold mk Dat.val
  go_enter Tryz.func26, Tryz.ntmps26
  go_wp2_with (first
      | (go_at_call 56; refine (HC.out _).mono ?_; rintro en w2 ⟨rfl, n2, hw2⟩
         have B2 : Hid (Below w.heap.size w w2) := Lib.hid (hw2 ▸ below_drewN (below1 w _) n2)
         have R2 : Hid (Row w2 w.heap.size 28 zeroC) := Lib.hid (hw2 ▸ (Row.made w 28 zeroC).drewN n2)
         clear hw2 HC)
      | (refine put_dat (.tmp 2) (.tmp 40) w.heap.size zeroC zeroC _ rfl rfl rfl rfl R2.out rfl rfl rfl ?_; intro w5 hr5 hb5 _
         have B5 : Hid (Below w.heap.size w w5) := B2.out.trans (hb5 _ (Nat.le_refl _))
         have R5 := Lib.hid hr5
         clear B2 R2 hb5 hr5))
  exact bodyPost_ret (ret_ct rfl _ _ w.heap.size _ rfl R5.out rfl) rfl ⟨rfl, B5.out⟩
set_option maxRecDepth 200000 in
set_option maxHeartbeats 4000000 in
theorem nf_F2 (s x y : ByteArray) (w : World) (hx : x.size ≤ 140737488355328) (hy0 : y.size ≤ 140737488355328) (hc : ∀ w, Calls Tryz.prog 56 #[.string s, .string ⟨#[46]⟩] w fun e w' => e = .returned (.tuple #[.string x, .string y, .bool true]) ∧ ∃ n, w.drewN n = w') (h15 : decide ((15 : Int) < (x.size : Int) + (y.size : Int)) = true) : Calls Tryz.prog 26 #[.string s] w fun e w' => e = .returned (floOut false 0) ∧ Below w.heap.size w w' := by
  have HC := Lib.hid hc
  have w1 : wrap64 ((x.size : Int) + (y.size : Int)) = (x.size : Int) + (y.size : Int) := wrap_id (by unfold I64; omega)
  have w2 : (1 : Int) + (y.size : Int) ≤ 9223372036854775807 := by omega
  clear hc
  rw [floOut_no]
  unfold mk Dat.val
  go_enter Tryz.func26, Tryz.ntmps26
  go_wp2_with (first
      | (go_at_call 56; refine (HC.out _).mono ?_; rintro en w2 ⟨rfl, n2, hw2⟩
         have B2 : Hid (Below w.heap.size w w2) := Lib.hid (hw2 ▸ below_drewN (below1 w _) n2)
         have R2 : Hid (Row w2 w.heap.size 28 zeroC) := Lib.hid (hw2 ▸ (Row.made w 28 zeroC).drewN n2)
         clear hw2 HC)
      | (refine put_dat (.tmp 2) (.tmp 40) w.heap.size zeroC zeroC _ rfl rfl rfl rfl R2.out rfl rfl rfl ?_; intro w5 hr5 hb5 _
         have B5 : Hid (Below w.heap.size w w5) := B2.out.trans (hb5 _ (Nat.le_refl _))
         have R5 := Lib.hid hr5
         clear B2 R2 hb5 hr5))
  exact bodyPost_ret (ret_ct rfl _ _ w.heap.size _ rfl R5.out rfl) rfl ⟨rfl, B5.out⟩
set_option maxRecDepth 200000 in
set_option maxHeartbeats 4000000 in
theorem nf_F3 (s x y : ByteArray) (w : World) (hx : x.size ≤ 140737488355328) (hy0 : y.size ≤ 140737488355328) (hc : ∀ w, Calls Tryz.prog 56 #[.string s, .string ⟨#[46]⟩] w fun e w' => e = .returned (.tuple #[.string x, .string y, .bool true]) ∧ ∃ n, w.drewN n = w') (h15 : decide ((15 : Int) < (x.size : Int) + (y.size : Int)) = false) (hd1 : ∀ w, Calls Tryz.prog 55 #[.string x] w fun e w' => e = .returned (.bool false) ∧ w' = w) : Calls Tryz.prog 26 #[.string s] w fun e w' => e = .returned (floOut false 0) ∧ Below w.heap.size w w' := by
  have HC := Lib.hid hc
  have HD1 := Lib.hid hd1
  have w1 : wrap64 ((x.size : Int) + (y.size : Int)) = (x.size : Int) + (y.size : Int) := wrap_id (by unfold I64; omega)
  have w2 : (1 : Int) + (y.size : Int) ≤ 9223372036854775807 := by omega
  clear hc hd1
  rw [floOut_no]
  unfold mk Dat.val
  go_enter Tryz.func26, Tryz.ntmps26
  go_wp2_with (first
      | (go_at_call 56; refine (HC.out _).mono ?_; rintro en w2 ⟨rfl, n2, hw2⟩
         have B2 : Hid (Below w.heap.size w w2) := Lib.hid (hw2 ▸ below_drewN (below1 w _) n2)
         have R2 : Hid (Row w2 w.heap.size 28 zeroC) := Lib.hid (hw2 ▸ (Row.made w 28 zeroC).drewN n2)
         clear hw2 HC)
      | (go_at_call 55; refine (HD1.out _).mono ?_; rintro en w3 ⟨rfl, rfl⟩; clear HD1)
      | (refine put_dat (.tmp 2) (.tmp 40) w.heap.size zeroC zeroC _ rfl rfl rfl rfl R2.out rfl rfl rfl ?_; intro w5 hr5 hb5 _
         have B5 : Hid (Below w.heap.size w w5) := B2.out.trans (hb5 _ (Nat.le_refl _))
         have R5 := Lib.hid hr5
         clear B2 R2 hb5 hr5))
  exact bodyPost_ret (ret_ct rfl _ _ w.heap.size _ rfl R5.out rfl) rfl ⟨rfl, B5.out⟩
set_option maxRecDepth 200000 in
set_option maxHeartbeats 4000000 in
theorem nf_F4 (s x y : ByteArray) (w : World) (hx : x.size ≤ 140737488355328) (hy0 : y.size ≤ 140737488355328) (hc : ∀ w, Calls Tryz.prog 56 #[.string s, .string ⟨#[46]⟩] w fun e w' => e = .returned (.tuple #[.string x, .string y, .bool true]) ∧ ∃ n, w.drewN n = w') (h15 : decide ((15 : Int) < (x.size : Int) + (y.size : Int)) = false) (hd1 : ∀ w, Calls Tryz.prog 55 #[.string x] w fun e w' => e = .returned (.bool true) ∧ w' = w) (hd2 : ∀ w, Calls Tryz.prog 55 #[.string (⟨#[49]⟩ ++ y)] w fun e w' => e = .returned (.bool false) ∧ w' = w) : Calls Tryz.prog 26 #[.string s] w fun e w' => e = .returned (floOut false 0) ∧ Below w.heap.size w w' := by
  have HC := Lib.hid hc
  have HD1 := Lib.hid hd1
  have HD2 := Lib.hid hd2
  have w1 : wrap64 ((x.size : Int) + (y.size : Int)) = (x.size : Int) + (y.size : Int) := wrap_id (by unfold I64; omega)
  have w2 : (1 : Int) + (y.size : Int) ≤ 9223372036854775807 := by omega
  clear hc hd1 hd2
  rw [floOut_no]
  unfold mk Dat.val
  go_enter Tryz.func26, Tryz.ntmps26
  go_wp2_with (first
      | (go_at_call 56; refine (HC.out _).mono ?_; rintro en w2 ⟨rfl, n2, hw2⟩
         have B2 : Hid (Below w.heap.size w w2) := Lib.hid (hw2 ▸ below_drewN (below1 w _) n2)
         have R2 : Hid (Row w2 w.heap.size 28 zeroC) := Lib.hid (hw2 ▸ (Row.made w 28 zeroC).drewN n2)
         clear hw2 HC)
      | (go_at_call 55; refine (HD1.out _).mono ?_; rintro en w3 ⟨rfl, rfl⟩; clear HD1)
      | (go_at_call 55; refine (HD2.out _).mono ?_; rintro en w3 ⟨rfl, rfl⟩; clear HD2)
      | (refine put_dat (.tmp 2) (.tmp 40) w.heap.size zeroC zeroC _ rfl rfl rfl rfl R2.out rfl rfl rfl ?_; intro w5 hr5 hb5 _
         have B5 : Hid (Below w.heap.size w w5) := B2.out.trans (hb5 _ (Nat.le_refl _))
         have R5 := Lib.hid hr5
         clear B2 R2 hb5 hr5))
  exact bodyPost_ret (ret_ct rfl _ _ w.heap.size _ rfl R5.out rfl) rfl ⟨rfl, B5.out⟩
set_option maxRecDepth 200000 in
set_option maxHeartbeats 4000000 in
theorem nf_F5 (s x y : ByteArray) (w : World) (hx : x.size ≤ 140737488355328) (hy0 : y.size ≤ 140737488355328) (hc : ∀ w, Calls Tryz.prog 56 #[.string s, .string ⟨#[46]⟩] w fun e w' => e = .returned (.tuple #[.string x, .string y, .bool true]) ∧ ∃ n, w.drewN n = w') (h15 : decide ((15 : Int) < (x.size : Int) + (y.size : Int)) = false) (hd1 : ∀ w, Calls Tryz.prog 55 #[.string x] w fun e w' => e = .returned (.bool true) ∧ w' = w) (hd2 : ∀ w, Calls Tryz.prog 55 #[.string (⟨#[49]⟩ ++ y)] w fun e w' => e = .returned (.bool true) ∧ w' = w) (hy : (y.toList == []) = true) : Calls Tryz.prog 26 #[.string s] w fun e w' => e = .returned (floOut false 0) ∧ Below w.heap.size w w' := by
  have HC := Lib.hid hc
  have HD1 := Lib.hid hd1
  have HD2 := Lib.hid hd2
  have w1 : wrap64 ((x.size : Int) + (y.size : Int)) = (x.size : Int) + (y.size : Int) := wrap_id (by unfold I64; omega)
  have w2 : (1 : Int) + (y.size : Int) ≤ 9223372036854775807 := by omega
  clear hc hd1 hd2
  rw [floOut_no]
  unfold mk Dat.val
  go_enter Tryz.func26, Tryz.ntmps26
  go_wp2_with (first
      | (go_at_call 56; refine (HC.out _).mono ?_; rintro en w2 ⟨rfl, n2, hw2⟩
         have B2 : Hid (Below w.heap.size w w2) := Lib.hid (hw2 ▸ below_drewN (below1 w _) n2)
         have R2 : Hid (Row w2 w.heap.size 28 zeroC) := Lib.hid (hw2 ▸ (Row.made w 28 zeroC).drewN n2)
         clear hw2 HC)
      | (go_at_call 55; refine (HD1.out _).mono ?_; rintro en w3 ⟨rfl, rfl⟩; clear HD1)
      | (go_at_call 55; refine (HD2.out _).mono ?_; rintro en w3 ⟨rfl, rfl⟩; clear HD2)
      | (refine put_dat (.tmp 2) (.tmp 40) w.heap.size zeroC zeroC _ rfl rfl rfl rfl R2.out rfl rfl rfl ?_; intro w5 hr5 hb5 _
         have B5 : Hid (Below w.heap.size w w5) := B2.out.trans (hb5 _ (Nat.le_refl _))
         have R5 := Lib.hid hr5
         clear B2 R2 hb5 hr5))
  exact bodyPost_ret (ret_ct rfl _ _ w.heap.size _ rfl R5.out rfl) rfl ⟨rfl, B5.out⟩
set_option maxRecDepth 200000 in
set_option maxHeartbeats 4000000 in
theorem nf_T (s x y : ByteArray) (w : World) (hx : x.size ≤ 140737488355328) (hy0 : y.size ≤ 140737488355328) (hc : ∀ w, Calls Tryz.prog 56 #[.string s, .string ⟨#[46]⟩] w fun e w' => e = .returned (.tuple #[.string x, .string y, .bool true]) ∧ ∃ n, w.drewN n = w') (h15 : decide ((15 : Int) < (x.size : Int) + (y.size : Int)) = false) (hd1 : ∀ w, Calls Tryz.prog 55 #[.string x] w fun e w' => e = .returned (.bool true) ∧ w' = w) (hd2 : ∀ w, Calls Tryz.prog 55 #[.string (⟨#[49]⟩ ++ y)] w fun e w' => e = .returned (.bool true) ∧ w' = w) (hy : (y.toList == []) = false) (Q : Nat) (hQ : (Ieee.double.read Q).isNaN = false) (hG : Glob w) (hP : ∀ w, Glob w → Calls Tryz.prog 57 #[.string s, .int .i64 64] w fun e w' => e = .returned (.tuple #[.float .f64 Q, .nilIface]) ∧ w' = w) : Calls Tryz.prog 26 #[.string s] w fun e w' => e = .returned (floOut true Q) ∧ Below w.heap.size w w' := by
  have HC := Lib.hid hc
  have HD1 := Lib.hid hd1
  have HD2 := Lib.hid hd2
  have HP := Lib.hid hP
  have HG := Lib.hid hG
  have hf := fun w => float_any ⟨#[102, 108, 111, 97, 116]⟩ Q w
  have hfx : fixNan Q = (Q : Int) := by unfold fixNan; rw [hQ]; rfl
  rw [hfx] at hf
  simp only [mk, Dat.val] at hf
  have HF := Lib.hid hf
  clear hP hG hf hfx hQ
  have w1 : wrap64 ((x.size : Int) + (y.size : Int)) = (x.size : Int) + (y.size : Int) := wrap_id (by unfold I64; omega)
  have w2 : (1 : Int) + (y.size : Int) ≤ 9223372036854775807 := by omega
  clear hc hd1 hd2
  rw [floOut_yes]
  unfold mk Dat.val
  go_enter Tryz.func26, Tryz.ntmps26
  go_wp2_with (first
      | (go_at_call 56; refine (HC.out _).mono ?_; rintro en w2 ⟨rfl, n2, hw2⟩
         have B2 : Hid (Below w.heap.size w w2) := Lib.hid (hw2 ▸ below_drewN (below1 w _) n2)
         have R2 : Hid (Row w2 w.heap.size 28 zeroC) := Lib.hid (hw2 ▸ (Row.made w 28 zeroC).drewN n2)
         clear hw2 HC)
      | (go_at_call 55; refine (HD1.out _).mono ?_; rintro en w3 ⟨rfl, rfl⟩; clear HD1)
      | (go_at_call 55; refine (HD2.out _).mono ?_; rintro en w3 ⟨rfl, rfl⟩; clear HD2)
      | (go_at_call 57; refine (HP.out _ (HG.out.below B2.out)).mono ?_; rintro en w3 ⟨rfl, rfl⟩; clear HP)
      | (go_at_call 36; refine (HF.out _).mono ?_; rintro en w4 ⟨rfl, hb⟩
         have B4 : Hid (Below w.heap.size w w4) := below_more B2.out hb B2.out.size
         have R4 : Hid (Row w4 w.heap.size 28 zeroC) := R2.out.below hb R2.out.lt
         clear hb HF B2 R2)
      | (refine put_dat (.tmp 2) (.tmp 47) w.heap.size zeroC (mk 3 ⟨#[102, 108, 111, 97, 116]⟩ 0 (Q : Int) ⟨#[]⟩).cells _ rfl rfl rfl rfl R4.out rfl rfl rfl ?_; intro w5 hr5 hb5 _
         have B5 : Hid (Below w.heap.size w w5) := B4.out.trans (hb5 _ (Nat.le_refl _))
         have R5 := Lib.hid hr5
         clear B4 R4 hb5 hr5))
  exact bodyPost_ret (ret_ct rfl _ _ w.heap.size _ rfl R5.out rfl) rfl ⟨rfl, B5.out⟩
end Go.Proofs.YtehakhplglhkdaaGreatDoor
