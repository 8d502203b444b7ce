/- strconv.ParseFloat at digits, a point, digits, fifteen at most. Conditions: what three of the package's variables hold. -/
import Derived.Test.YtehakhplglhkdaaGreatDoorReadC
namespace Go.Proofs.YtehakhplglhkdaaGreatDoor
set_option linter.unusedVariables false
open Go.RowKit

theorem special_any (s : ByteArray) (w : World) (h : 0 < s.size) (hd : isD s[0]) : Calls Tryz.prog 126 #[.string s] w fun e w' => e = .returned (.tuple #[.float .f64 0, .int .i64 0, .bool false]) ∧ w' = w := by
  have hc : 48 ≤ s[0].toNat ∧ s[0].toNat ≤ 57 := hd
  have h0 : (0 : Int) ≤ 0 ∧ (0 : Int) < (s.size : Int) := by omega
  have e0 : ((s.size : Int) == 0) = false := beq_eq_false_iff_ne.2 (by omega)
  have b1 : ((s[0].toNat : Int) == 43) = false := by simp; omega
  have b2 : ((s[0].toNat : Int) == 45) = false := by simp; omega
  have b3 : ((s[0].toNat : Int) == 105) = false := by simp; omega
  have b4 : ((s[0].toNat : Int) == 73) = false := by simp; omega
  have b5 : ((s[0].toNat : Int) == 110) = false := by simp; omega
  have b6 : ((s[0].toNat : Int) == 78) = false := by simp; omega
  clear hd hc
  go_enter Tryz.func126, Tryz.ntmps126
  go_wp2
  go_ret3
  exact ⟨rfl, rfl⟩
/-- What holds of the loop's state. -/
def InvR (A : Nat) (V : Nat → Nat) (k j M nd : Nat) (dp : Int) (sd : Bool) : Prop :=
  M = V j ∧ (nd = 0 ↔ M = 0) ∧ nd ≤ j ∧ (k ≤ A ∧ j = k ∧ sd = false ∧ -(k : Int) ≤ dp ∧ dp ≤ 0 ∨ A < k ∧ j + 1 = k ∧ sd = true ∧ dp - nd = -((j : Int) - A))
section
variable {A : Nat} {V : Nat → Nat} {k j M nd : Nat} {dp : Int} {sd : Bool}
theorem inv_sd (h : InvR A V k j M nd dp sd) (hk : k = A) : sd = false := by
  obtain ⟨_, _, _, i4⟩ := h
  rcases i4 with ⟨_, _, c, _⟩ | ⟨a, _⟩
  · exact c
  · omega
theorem inv_dot (h : InvR A V k j M nd dp sd) (hk : k = A) : InvR A V (k + 1) j M nd (nd : Int) true := by
  obtain ⟨i1, i2, i3, i4⟩ := h
  refine ⟨i1, i2, i3, .inr ?_⟩
  rcases i4 with ⟨a, b, _, _, _⟩ | ⟨a, _⟩
  · exact ⟨by omega, by omega, rfl, by omega⟩
  · omega
theorem inv_bound (h : InvR A V k j M nd dp sd) (hk : k ≤ 20) (hA : A ≤ 20) : -100 ≤ dp ∧ dp ≤ 100 ∧ nd ≤ 20 := by
  obtain ⟨_, _, i3, i4⟩ := h
  rcases i4 with ⟨a, b, _, d, e⟩ | ⟨a, b, _, d⟩ <;> omega
theorem inv_zero (h : InvR A V k j 0 0 dp sd) (hk : k ≠ A) (hV : V (j + 1) = 0) : InvR A V (k + 1) (j + 1) 0 0 (dp - 1) sd := by
  obtain ⟨_, _, _, i4⟩ := h
  refine ⟨hV.symm, Iff.rfl, by omega, ?_⟩
  rcases i4 with ⟨a, b, c, d, e⟩ | ⟨a, b, c, d⟩
  · exact .inl ⟨by omega, by omega, c, by omega, by omega⟩
  · exact .inr ⟨by omega, by omega, c, by omega⟩
theorem inv_digit {M2 : Nat} (h : InvR A V k j M nd dp sd) (hk : k ≠ A) (hV : V (j + 1) = M2) (h0 : M2 ≠ 0) : InvR A V (k + 1) (j + 1) M2 (nd + 1) dp sd := by
  obtain ⟨_, _, i3, i4⟩ := h
  refine ⟨hV.symm, ⟨fun e => absurd e (by omega), fun e => absurd e h0⟩, by omega, ?_⟩
  rcases i4 with ⟨a, b, c, d, e⟩ | ⟨a, b, c, d⟩
  · exact .inl ⟨by omega, by omega, c, by omega, by omega⟩
  · exact .inr ⟨by omega, by omega, c, by omega⟩
theorem inv_end (h : InvR A V k j M nd dp sd) (hk : A < k) : j + 1 = k ∧ sd = true ∧ dp - nd = -((j : Int) - A) := by
  obtain ⟨_, _, _, i4⟩ := h
  rcases i4 with ⟨a, _⟩ | ⟨_, b, c, d⟩
  · omega
  · exact ⟨b, c, d⟩
theorem inv_pos (h : InvR A V k j M nd dp sd) (hk : k ≠ A) : k < A ∧ j = k ∨ A < k ∧ j + 1 = k := by
  obtain ⟨_, _, _, i4⟩ := h
  rcases i4 with ⟨a, b, _⟩ | ⟨a, b, _⟩
  · exact .inl ⟨by omega, b⟩
  · exact .inr ⟨a, b⟩
theorem inv_new {c : Nat} (h : InvR A V k j M nd dp sd) (hc : 48 ≤ c) (hz : ¬ (c = 48 ∧ nd = 0)) : 10 * M + (c - 48) ≠ 0 := by
  obtain ⟨_, i2, _, _⟩ := h
  by_cases h : nd = 0
  · have : c ≠ 48 := fun e => hz ⟨e, h⟩
    omega
  · have : M ≠ 0 := fun e => h (i2.2 e)
    omega
end
theorem digit_at {s : ByteArray} {A : Nat} {V : Nat → Nat} (hd1 : ∀ (k : Nat) (h : k < s.size), k < A → isD s[k] ∧ V (k + 1) = 10 * V k + (s[k].toNat - 48)) (hd2 : ∀ (k : Nat) (h : k < s.size), A < k → isD s[k] ∧ V k = 10 * V (k - 1) + (s[k].toNat - 48)) {k j : Nat} (h : k < s.size) (hp : k < A ∧ j = k ∨ A < k ∧ j + 1 = k) : isD s[k] ∧ V (j + 1) = 10 * V j + (s[k].toNat - 48) := by
  rcases hp with ⟨a, rfl⟩ | ⟨a, b⟩
  · exact hd1 _ h a
  · have h2 := hd2 k h a
    have e1 : k - 1 = j := by omega
    rw [e1] at h2
    exact ⟨h2.1, by rw [b]; exact h2.2⟩
theorem exp_end {dp : Int} {nd j A B : Nat} (h : dp - nd = -((j : Int) - A)) (hj : j = A + B) (hAB : A + B ≤ 15) : wrap64 (dp - (nd : Int)) = -(B : Int) := by
  rw [h, wrap_id (by unfold I64; omega)]
  omega
theorem mant_facts (M c : Nat) (hc : 48 ≤ c ∧ c ≤ 57) (hM : M < 1000000000000000) : IntKind.u64.wrap ((M : Int) * 10) = (M : Int) * 10 ∧ IntKind.u8.wrap ((c : Int) - 48) = (c : Int) - 48 ∧ IntKind.u64.wrap ((c : Int) - 48) = (c : Int) - 48 ∧ IntKind.u64.wrap ((M : Int) * 10 + ((c : Int) - 48)) = (M : Int) * 10 + ((c : Int) - 48) ∧ (M : Int) * 10 + ((c : Int) - 48) = ((10 * M + (c - 48) : Nat) : Int) := by
  refine ⟨?_, ?_, ?_, ?_, by omega⟩
  · show ((M : Int) * 10) % 18446744073709551616 = _; omega
  · show ((c : Int) - 48) % 256 = _; omega
  · show ((c : Int) - 48) % 18446744073709551616 = _; omega
  · show ((M : Int) * 10 + ((c : Int) - 48)) % 18446744073709551616 = _; omega
theorem nd_facts (nd : Nat) (h : nd ≤ 16) : wrap64 ((nd : Int) + 1) = (nd : Int) + 1 ∧ decide ((nd : Int) < 19) = true := ⟨wrap_id (by unfold I64; omega), decide_eq_true (by omega)⟩
set_option maxRecDepth 200000 in
set_option maxHeartbeats 8000000 in
theorem readFloat_any (s : ByteArray) (A B : Nat) (V : Nat → Nat) (w : World) (hs : s.size = A + 1 + B) (hA : 0 < A) (hB : 0 < B) (hz : ∀ h : 0 < s.size, s[0].toNat = 48 → A = 1) (hAB : A + B ≤ 15) (hV0 : V 0 = 0) (hVb : ∀ j, j ≤ A + B → V j < 1000000000000000)
    (hdot : ∀ (k : Nat) (h : k < s.size), k = A → s[k].toNat = 46) (hd1 : ∀ (k : Nat) (h : k < s.size), k < A → isD s[k] ∧ V (k + 1) = 10 * V k + (s[k].toNat - 48)) (hd2 : ∀ (k : Nat) (h : k < s.size), A < k → isD s[k] ∧ V k = 10 * V (k - 1) + (s[k].toNat - 48)) :
    Calls Tryz.prog 127 #[.string s] w fun e w' => e = .returned (.tuple #[.int .u64 (V (A + B)), .int .i64 (if V (A + B) = 0 then 0 else -(B : Int)), .bool false, .bool false, .bool false, .int .i64 s.size, .bool true]) ∧ w' = w := by
  have h0 : (0 : Int) ≤ 0 ∧ (0 : Int) < (s.size : Int) := by omega
  have HD1 := Lib.hid hd1
  have HD2 := Lib.hid hd2
  have HDOT := Lib.hid hdot
  have HVB := Lib.hid hVb
  have HV0 := Lib.hid hV0
  have HS := Lib.hid hs
  have hpos : 0 < s.size := by omega
  have hc0 : 48 ≤ s[0].toNat ∧ s[0].toNat ≤ 57 := (hd1 0 hpos hA).1
  have b1 : ((s[0].toNat : Int) == 43) = false := by simp; omega
  have b2 : ((s[0].toNat : Int) == 45) = false := by simp; omega
  have hle : s.size ≤ 16 := by omega
  have g0 : decide (s = ByteArray.empty) = false := decide_eq_false (fun e => by subst e; simp at hpos)
  have b3 : decide ((2 : Int) < (s.size : Int)) = true := decide_eq_true (by omega)
  have h1s : 1 < s.size := by omega
  have h01 : (0 : Int) ≤ 1 ∧ (1 : Int) < (s.size : Int) := by omega
  have b48 : ((s[0].toNat : Int) == 48) = false ∨ (((s[0].toNat : Int) == 48) = true ∧ (bits BinOp.or .u8 ((s[1]'h1s).toNat : Int) 32 == 120) = false) := by
    by_cases h : s[0].toNat = 48
    · right
      have h1 := hz hpos h
      have h2 := hdot 1 h1s h1.symm
      rw [h2]
      exact ⟨by simp; omega, by decide⟩
    · left; simp; omega
  have Hb := Lib.hid hAB
  clear hd1 hd2 hdot hVb hV0 hs hz hAB hA hB
  rcases b48 with b4 | ⟨b4, b5⟩
  all_goals
    go_enter Tryz.func127, Tryz.ntmps127
    go_wp2
    go_step3
    go_wp2
    go_step3
    go_wp2
    go_loopw [2, 5, 7, 9, 13, 14, 15, 16, 17, 18] (fun mt tr ii us sdv sg ndv nmv dpv cc wr => ∃ (k j M nd : Nat) (dp : Int) (sd : Bool), mt = .int .u64 M ∧ tr = .bool false ∧ ii = .int .i64 k ∧ us = .bool false ∧ sdv = .bool sd ∧ sg = .bool (decide (0 < j)) ∧ ndv = .int .i64 nd ∧ nmv = .int .i64 nd ∧ dpv = .int .i64 dp ∧ k ≤ s.size ∧ Hid (InvR A V k j M nd dp sd) ∧ Hid (wr = w)) (fun _ _ ii _ _ _ _ _ _ _ _ => s.size - (intOf ii).toNat)
    case atStart => exact ⟨0, 0, 0, 0, 0, false, rfl, rfl, rfl, rfl, rfl, rfl, rfl, rfl, rfl, Nat.zero_le _, Lib.hid ⟨HV0.out.symm, by simp, by omega, .inl ⟨by omega, rfl, rfl, by omega, by omega⟩⟩, rfl⟩
    case round =>
      obtain ⟨k, j, M, nd, dp, sd, rfl, rfl, rfl, rfl, rfl, rfl, rfl, rfl, rfl, hk, HI, H⟩ := hrel
      obtain rfl := H.out
      clear H
      have hAB := Hb.out
      by_cases hlt : k < s.size
      · have hi : (0 : Int) ≤ (k : Int) ∧ (k : Int) < (s.size : Int) := by omega
        by_cases hkA : k = A
        · have h46 := HDOT.out k hlt hkA
          obtain rfl : sd = false := inv_sd HI.out hkA
          have b46 : ((s[k].toNat : Int) == 46) = true := by simp; omega
          have b95 : ((s[k].toNat : Int) == 95) = false := by simp; omega
          have HI2 := Lib.hid (inv_dot HI.out hkA)
          clear h46 HI hAB hkA
          go_wp2
          go_roundw
          case rel => exact ⟨k + 1, j, M, nd, (nd : Int), true, rfl, rfl, by go_num, rfl, rfl, rfl, rfl, rfl, rfl, by omega, HI2, trivial⟩
          case measure => simp [intOf]; omega
        · have hpos2 := inv_pos HI.out hkA
          obtain ⟨hd, hV⟩ := digit_at HD1.out HD2.out hlt hpos2
          have hbd := inv_bound HI.out (by omega) (by omega)
          have hc : 48 ≤ s[k].toNat ∧ s[k].toNat ≤ 57 := hd
          have hM := HVB.out j (by have := HS.out; omega)
          rw [← HI.out.1] at hM hV
          have b46 : ((s[k].toNat : Int) == 46) = false := by simp; omega
          have b95 : ((s[k].toNat : Int) == 95) = false := by simp; omega
          have l48 : decide ((48 : Int) ≤ (s[k].toNat : Int)) = true := decide_eq_true (by omega)
          have l57 : decide ((s[k].toNat : Int) ≤ 57) = true := decide_eq_true (by omega)
          have HJ : Hid (decide (0 < j + 1) = true) := Lib.hid (by simp)
          by_cases hz : s[k].toNat = 48 ∧ nd = 0
          · obtain ⟨z1, z2⟩ := hz
            subst z2
            have hM0 : M = 0 := HI.out.2.1.1 rfl
            subst hM0
            have e48 : ((s[k].toNat : Int) == 48) = true := by simp; omega
            have wdp : wrap64 (dp - 1) = dp - 1 := wrap_id (by unfold I64; omega)
            have HI2 := Lib.hid (inv_zero HI.out hkA (by rw [hV, z1]))
            clear HI hAB hkA hd hV hc hM z1 hbd hpos2
            go_wp2
            go_roundw
            case rel => exact ⟨k + 1, j + 1, 0, 0, dp - 1, sd, rfl, rfl, by go_num, rfl, rfl, by rw [HJ.out], rfl, rfl, by go_num, by omega, HI2, trivial⟩
            case measure => simp [intOf]; omega
          · have e48 : ((s[k].toNat : Int) == 48) = false ∨ ((s[k].toNat : Int) == 48) = true ∧ ((nd : Int) == 0) = false := by
              by_cases h : s[k].toNat = 48
              · exact .inr ⟨by simp; omega, beq_eq_false_iff_ne.2 (fun e => hz ⟨h, by omega⟩)⟩
              · exact .inl (by simp; omega)
            obtain ⟨m1, m2, m3, m4, m5⟩ := mant_facts M s[k].toNat hc hM
            obtain ⟨n1, n2⟩ := nd_facts nd (by have := HI.out.2.2.1; have := HS.out; omega)
            have HI2 := Lib.hid (inv_digit HI.out hkA hV (inv_new HI.out hc.1 hz))
            have HM5 := Lib.hid m5
            clear HI hAB hkA hd hV hc hM hz hbd hpos2 m5
            rcases e48 with e48 | ⟨e48, e0⟩
            · go_wp2
              go_roundw
              case rel => exact ⟨k + 1, j + 1, 10 * M + (s[k].toNat - 48), nd + 1, dp, sd, by rw [← HM5.out], rfl, by go_num, rfl, rfl, by rw [HJ.out], by go_num, by go_num, rfl, by omega, HI2, trivial⟩
              case measure => simp [intOf]; omega
            · go_wp2
              go_roundw
              case rel => exact ⟨k + 1, j + 1, 10 * M + (s[k].toNat - 48), nd + 1, dp, sd, by rw [← HM5.out], rfl, by go_num, rfl, rfl, by rw [HJ.out], by go_num, by go_num, rfl, by omega, HI2, trivial⟩
              case measure => simp [intOf]; omega
      · obtain rfl : k = s.size := by omega
        have hsz := HS.out
        obtain ⟨hj, rfl, hdp⟩ := inv_end HI.out (by omega)
        have hjj : j = A + B := by omega
        have sj : decide (0 < j) = true := decide_eq_true (by omega)
        have wdp := exp_end hdp hjj hAB
        have HM : Hid (M = V (A + B)) := Lib.hid (by rw [HI.out.1, hjj])
        have HR0 : Hid (M = 0 → (if V (A + B) = 0 then (0 : Int) else -(B : Int)) = 0) := Lib.hid (fun h => by rw [← HM.out, if_pos h])
        have HR1 : Hid (M ≠ 0 → (if V (A + B) = 0 then (0 : Int) else -(B : Int)) = -(B : Int)) := Lib.hid (fun h => by rw [← HM.out, if_neg h])
        clear HI hsz hAB hj hdp hjj hlt hk
        by_cases hM0 : M = 0
        · have hr := Lib.hid (HR0.out hM0)
          have m0 : ((M : Int) != 0) = false := by simp [hM0]
          clear hM0
          go_wp2
          rw [Exit.noGoto_ret]
          refine bodyPost_ret (results_tmp7 rfl _ _ _) rfl ⟨?_, rfl⟩
          rw [hr.out, ← HM.out]
          rfl
        · have hr := Lib.hid (HR1.out hM0)
          have m0 : ((M : Int) != 0) = true := by simp; omega
          clear hM0
          go_wp2
          rw [Exit.noGoto_ret]
          refine bodyPost_ret (results_tmp7 rfl _ _ _) rfl ⟨?_, rfl⟩
          rw [hr.out, ← HM.out, ← wdp]
          rfl
end Go.Proofs.YtehakhplglhkdaaGreatDoor
