/- number.toward and guiseref6.Whole: a float's whole part. Condition: the bits fit. -/
import Derived.Test.YtehakhplglhkdaaGreatDoorConvPlain
import Derived.Test.YtehakhplglhkdaaGreatDoorUnaryF
import Derived.Test.YtehakhplglhkdaaGreatDoorRingPlain
namespace Go.Proofs.YtehakhplglhkdaaGreatDoor
set_option linter.unusedVariables false
open Go.RowKit

theorem toward_any (F : Nat) (w : World) (hF : F < 18446744073709551616) :
    Calls Tryz.prog 52 #[.float .f64 F] w fun e w' => e = .returned (.int .i64 (wholeOf F)) ∧ w' = w := by
  have HC := cut_all F hF
  obtain ⟨m, hm⟩ : ∃ m, m = wholeOf F := ⟨_, rfl⟩
  rw [← hm]
  rcases HC with ⟨h1, h2, h3⟩ | ⟨h1, hc⟩ | ⟨h1, h2, hc⟩
  · have hc : ∀ w, (convert 71 3 (.float .f64 F)).run Tryz.prog w = .ok (.int .i64 m) w := fun w => run_convert_float_int w 71 3 .f64 .i64 F m (by kernel_rfl) Tryz.underlying3 (hm ▸ h3)
    have g2 : FloatKind.f64.format.order F 4890909195324358656 = some .lt := h2
    clear h3 h2 hm
    rcases h1 with h1 | h1
    · have g1 : FloatKind.f64.format.order F 14114281232179134464 = some .gt := h1
      clear h1
      go_enter Tryz.func52, Tryz.ntmps52
      go_wp2
      go_returns
      exact ⟨rfl, rfl⟩
    · have g1 : FloatKind.f64.format.order F 14114281232179134464 = some .eq := h1
      clear h1
      go_enter Tryz.func52, Tryz.ntmps52
      go_wp2
      go_returns
      exact ⟨rfl, rfl⟩
  · rw [hc] at hm
    subst hm
    rcases h1 with h1 | h1
    · have g1 : FloatKind.f64.format.order F 14114281232179134464 = some .lt := h1
      clear h1
      go_enter Tryz.func52, Tryz.ntmps52
      go_wp2
      go_returns
      exact ⟨rfl, rfl⟩
    · have g1 : FloatKind.f64.format.order F 14114281232179134464 = none := h1
      clear h1
      go_enter Tryz.func52, Tryz.ntmps52
      go_wp2
      go_returns
      exact ⟨rfl, rfl⟩
  · rw [hc] at hm
    subst hm
    have g1 : FloatKind.f64.format.order F 14114281232179134464 = some .gt := h1
    clear h1
    rcases h2 with h2 | h2
    · have g2 : FloatKind.f64.format.order F 4890909195324358656 = some .eq := h2
      clear h2
      go_enter Tryz.func52, Tryz.ntmps52
      go_wp2
      go_returns
      exact ⟨rfl, rfl⟩
    · have g2 : FloatKind.f64.format.order F 4890909195324358656 = some .gt := h2
      clear h2
      go_enter Tryz.func52, Tryz.ntmps52
      go_wp2
      go_returns
      exact ⟨rfl, rfl⟩

theorem or_signi (x : Nat) (h : x < 4503599627370496) : bits BinOp.or .u64 (x : Int) 4503599627370496 = ((x + 4503599627370496 : Nat) : Int) := by
  show IntKind.u64.wrap (((BitVec.ofInt 64 (x : Int) ||| BitVec.ofInt 64 4503599627370496).toNat : Nat) : Int) = _
  rw [BitVec.toNat_or, show (BitVec.ofInt 64 4503599627370496).toNat = 2 ^ 52 * 1 from rfl, BitVec.toNat_ofInt]
  have e : ((x : Int) % ((2 ^ 64 : Nat) : Int)).toNat = x := by omega
  rw [e, show x ||| 2 ^ 52 * 1 = 2 ^ 52 * 1 ||| x from Nat.or_comm _ _, ← Nat.two_pow_add_eq_or_of_lt (by simpa using h)]
  show (((2 ^ 52 * 1 + x : Nat) : Int)) % 18446744073709551616 = _
  omega
theorem pow_le10 (k : Nat) (h : k ≤ 10) : 2 ^ k ≤ 1024 := by
  have : 2 ^ k ≤ 2 ^ 10 := Nat.pow_le_pow_right (by omega) h
  simpa using this

theorem mag_facts (M : Nat) (h : M < 9223372036854775808) : decide ((9223372036854775808 : Int) ≤ (M : Int)) = false ∧ wrap64 (M : Int) = (M : Int) ∧ wrap64 (-(M : Int)) = -(M : Int) :=
  ⟨decide_eq_false (by omega), wrap_id (by unfold I64; omega), wrap_id (by unfold I64; omega)⟩
theorem dbl_facts (S k : Nat) (hS : S < 9007199254740992) (hk : k ≤ 10) : decide ((9223372036854775808 : Int) ≤ ((S * 2 ^ k : Nat) : Int)) = false ∧ IntKind.u64.wrap (((S * 2 ^ k : Nat) : Int) * 2) = ((S * 2 ^ (k + 1) : Nat) : Int) := by
  have hp := Nat.mul_le_mul (show S ≤ 9007199254740991 by omega) (pow_le10 k hk)
  rw [Nat.pow_succ, ← Nat.mul_assoc]
  generalize S * 2 ^ k = T at *
  refine ⟨decide_eq_false (by omega), ?_⟩
  show ((T : Int) * 2) % 18446744073709551616 = _
  omega
theorem half_facts (S k : Nat) (hS : S < 9007199254740992) : IntKind.u64.wrap (((S / 2 ^ k : Nat) : Int).tdiv 2) = ((S / 2 ^ (k + 1) : Nat) : Int) := by
  rw [Nat.pow_succ, ← Nat.div_div_eq_div_mul]
  have hle : S / 2 ^ k ≤ S := Nat.div_le_self _ _
  generalize S / 2 ^ k = T at *
  rw [Int.tdiv_eq_ediv_of_nonneg (by omega)]
  show ((T : Int) / 2) % 18446744073709551616 = _
  omega
theorem top_fact (S M : Nat) (hS : 4503599627370496 ≤ S) (h : M = S * 2 ^ 11) : decide ((9223372036854775808 : Int) ≤ (M : Int)) = true := decide_eq_true (by omega)

set_option maxRecDepth 200000 in
set_option maxHeartbeats 4000000 in
theorem refwhole_any (F : Nat) (w : World) (hF : F < 18446744073709551616) :
    Calls Tryz.prog 53 #[.int .u64 F] w fun e w' => e = .returned (.int .i64 (wholeOf F)) ∧ w' = w := by
  have hs := signi_lt F
  have a1 : bits BinOp.and .u64 ((F : Int) / 4503599627370496) 2047 = (expo F : Int) := by
    rw [bits_and2047 _ (by omega)]
    unfold expo
    omega
  have a2 : IntKind.u64.wrap ((F : Int) * 4096) / 4096 = ((F % 4503599627370496 : Nat) : Int) := by
    show ((F : Int) * 4096) % 18446744073709551616 / 4096 = _
    omega
  have a3 := or_signi (F % 4503599627370496) (by omega)
  have a4 : (((F % 4503599627370496 + 4503599627370496 : Nat)) : Int) = (signi F : Int) := rfl
  rw [a4] at a3
  have hEl : expo F < 2048 := Nat.mod_lt _ (by omega)
  have a5 : wrap64 (expo F : Int) = (expo F : Int) := wrap_id (by unfold I64; omega)
  have hsgn : (decide ((F : Int) / 9223372036854775808 = 1)) = decide (F / 9223372036854775808 % 2 = 1) := by
    by_cases h : F / 9223372036854775808 % 2 = 1
    · rw [decide_eq_true h]; exact decide_eq_true (by omega)
    · rw [decide_eq_false h]; exact decide_eq_false (by omega)
  have hsg : ((F : Int) / 9223372036854775808 == 1) = decide (F / 9223372036854775808 % 2 = 1) := by
    rw [← hsgn]; rfl
  clear hsgn
  obtain ⟨sg, hsg2⟩ : ∃ b, b = decide (F / 9223372036854775808 % 2 = 1) := ⟨_, rfl⟩
  rw [← hsg2] at hsg
  have hW : wholeOf F = if 1085 < expo F then -9223372036854775808 else if sg = true then -(wholeMag F : Int) else (wholeMag F : Int) := by
    unfold wholeOf
    rw [hsg2]
    simp only [decide_eq_true_eq]
  have hmag : wholeMag F = if expo F ≤ 1075 then signi F / 2 ^ (1075 - expo F) else signi F * 2 ^ (expo F - 1075) := rfl
  have hml := wholeMag_lt F
  rw [hW]
  generalize wholeMag F = M at *
  clear hW hsg2 a4
  generalize expo F = E at *
  generalize signi F = S at *
  generalize F % 4503599627370496 = X at *
  have c0 : decide ((11 : Int) < (E : Int) - 1075) = decide (1086 < E) := by
    by_cases h : 1086 < E
    · rw [decide_eq_true h]; exact decide_eq_true (by omega)
    · rw [decide_eq_false h]; exact decide_eq_false (by omega)
  have a6 : wrap64 ((E : Int) - 1075) = (E : Int) - 1075 := wrap_id (by unfold I64; omega)
  have c1 : ((E : Int) == 2047) = decide (E = 2047) := by
    by_cases h : E = 2047
    · subst h; rfl
    · rw [decide_eq_false h]; simp; omega
  by_cases h47 : E = 2047
  · subst h47
    rw [if_pos (by omega)]
    clear hmag hml hs a6
    go_enter Tryz.func53, Tryz.ntmps53
    go_wp2
    go_ret
    exact ⟨rfl, rfl⟩
  · rw [decide_eq_false h47] at c1
    by_cases h86 : 1086 < E
    · rw [if_pos (by omega)]
      rw [decide_eq_true h86] at c0
      clear hmag hml hs h86 h47
      go_enter Tryz.func53, Tryz.ntmps53
      go_wp2
      go_ret
      exact ⟨rfl, rfl⟩
    · rw [decide_eq_false h86] at c0
      by_cases h75 : E ≤ 1075
      · rw [if_pos h75] at hmag
        rw [if_neg (by omega)]
        have HML := Lib.hid (hml (by omega))
        have HMAG := Lib.hid hmag
        obtain ⟨K, hK⟩ : ∃ K, K = 1075 - E := ⟨_, rfl⟩
        have hK2 : (E : Int) - 1075 = -(K : Int) := by omega
        have HK := Lib.hid hK
        have HS := Lib.hid hs
        rw [hK2] at a6 c0
        clear hmag hml hs h86 h47 hK h75 hEl
        go_enter Tryz.func53, Tryz.ntmps53
        go_wp2_with fail
        go_loopw [3, 4] (fun v m wr => ∃ k : Nat, v = .int .i64 ((k : Int) - K) ∧ k ≤ K ∧ m = .int .u64 ((S / 2 ^ k : Nat) : Int) ∧ Hid (wr = w)) (fun v _ _ => (-(intOf v)).toNat)
        case atStart => exact ⟨0, by go_num, Nat.zero_le _, by rw [Nat.pow_zero, Nat.div_one], rfl⟩
        case round =>
          obtain ⟨k, rfl, hk, rfl, H⟩ := hrel
          obtain rfl := H.out
          clear H
          by_cases hlt : k < K
          · have hK3 := HK.out
            have c2 : decide ((k : Int) - K < 0) = true := decide_eq_true (by omega)
            have hI : I64 ((k : Int) - K + 1) := by unfold I64; omega
            have a7 := wrap_id hI
            have a8 := half_facts S k HS.out.2
            obtain ⟨T, hT⟩ : ∃ T : Int, T = ((S / 2 ^ k : Nat) : Int) := ⟨_, rfl⟩
            obtain ⟨T2, hT2⟩ : ∃ T : Int, T = ((S / 2 ^ (k + 1) : Nat) : Int) := ⟨_, rfl⟩
            rw [← hT, ← hT2] at a8
            rw [← hT]
            have HT2 := Lib.hid hT2
            clear hT hT2 hI hK3
            go_wp2_with fail
            go_roundw
            case rel => exact ⟨k + 1, by go_num, by omega, by rw [HT2.out], trivial⟩
            case measure => simp [intOf]; omega
          · obtain rfl : k = K := by omega
            have c2 : decide ((k : Int) - k < 0) = false := decide_eq_false (by omega)
            have hm := HMAG.out
            rw [← HK.out] at hm
            rw [← hm, Int.sub_self]
            have hM := HML.out
            clear hm
            obtain ⟨c4, a9, a10⟩ := mag_facts M hM
            clear hlt hk hM
            cases sg with
            | true =>
              go_wp2_with fail
              go_rounds 1
              go_ret
              exact ⟨rfl, rfl⟩
            | false =>
              go_wp2_with fail
              go_rounds 1
              go_ret
              exact ⟨rfl, rfl⟩
      · rw [if_neg h75] at hmag
        have HML := Lib.hid hml
        obtain ⟨R, hR⟩ : ∃ R : Int, R = (if 1085 < E then -9223372036854775808 else if sg = true then -(M : Int) else (M : Int)) := ⟨_, rfl⟩
        rw [← hR]
        have HR := Lib.hid hR
        clear hR
        have HMAG := Lib.hid hmag
        obtain ⟨K, hK⟩ : ∃ K, K = E - 1075 := ⟨_, rfl⟩
        have hK2 : (E : Int) - 1075 = (K : Int) := by omega
        have HK := Lib.hid hK
        have HS := Lib.hid hs
        have HE := Lib.hid h86
        have HE2 := Lib.hid h75
        rw [hK2] at a6 c0
        clear hmag hml hs h86 h47 hK h75 hEl
        have c5 : decide ((K : Int) < 0) = false := decide_eq_false (by omega)
        go_enter Tryz.func53, Tryz.ntmps53
        go_wp2_with fail
        go_rounds 1
        go_wp2_with fail
        go_loopw [3, 4] (fun v m wr => ∃ k : Nat, v = .int .i64 ((K : Int) - k) ∧ k ≤ K ∧ m = .int .u64 ((S * 2 ^ k : Nat) : Int) ∧ Hid (wr = w)) (fun v _ _ => (intOf v).toNat)
        case atStart => exact ⟨0, by go_num, Nat.zero_le _, by rw [Nat.pow_zero, Nat.mul_one], rfl⟩
        case round =>
          obtain ⟨k, rfl, hk, rfl, H⟩ := hrel
          obtain rfl := H.out
          clear H
          have hK11 : K ≤ 11 := by have := HK.out; have := HE.out; omega
          by_cases hlt : k < K
          · have c2 : decide ((0 : Int) < (K : Int) - k) = true := decide_eq_true (by omega)
            have hI : I64 ((K : Int) - k - 1) := by unfold I64; omega
            have a7 := wrap_id hI
            obtain ⟨c3, a8⟩ := dbl_facts S k HS.out.2 (by omega)
            obtain ⟨T, hT⟩ : ∃ T : Int, T = ((S * 2 ^ k : Nat) : Int) := ⟨_, rfl⟩
            obtain ⟨T2, hT2⟩ : ∃ T : Int, T = ((S * 2 ^ (k + 1) : Nat) : Int) := ⟨_, rfl⟩
            rw [← hT, ← hT2] at a8
            rw [← hT] at c3 ⊢
            have HT2 := Lib.hid hT2
            clear hT hT2 hI
            go_wp2_with fail
            go_roundw
            case rel => exact ⟨k + 1, by go_num, by omega, by rw [HT2.out], trivial⟩
            case measure => simp [intOf]; omega
          · obtain rfl : k = K := by omega
            have c2 : decide ((0 : Int) < (k : Int) - k) = false := decide_eq_false (by omega)
            have hm := HMAG.out
            rw [← HK.out] at hm
            rw [← hm, Int.sub_self]
            by_cases h85 : 1085 < E
            · have hr : Hid (R = -9223372036854775808) := Lib.hid (by rw [HR.out, if_pos h85])
              have hS := HS.out
              have hk11 : k = 11 := by have := HK.out; have := HE.out; omega
              have c4 := top_fact S M hS.1 (by rw [hm, hk11])
              clear hlt hk hm hS hk11 h85 HR
              go_wp2_with fail
              go_ret
              exact ⟨by rw [hr.out]; rfl, rfl⟩
            · have hr : Hid (R = if sg = true then -(M : Int) else (M : Int)) := Lib.hid (by rw [HR.out, if_neg h85])
              clear HR
              have hM := HML.out (by omega)
              clear hm
              obtain ⟨c4, a9, a10⟩ := mag_facts M hM
              clear hlt hk hM h85
              cases sg with
              | true =>
                go_wp2_with fail
                go_ret
                exact ⟨by rw [hr.out]; first | rfl | (show Ending.returned (Value.int .i64 (wrap64 (M : Int))) = _; rw [a9]; rfl) | (show Ending.returned (Value.int .i64 (wrap64 (-(wrap64 (M : Int))))) = _; rw [a9, a10]; rfl), rfl⟩
              | false =>
                go_wp2_with fail
                go_ret
                exact ⟨by rw [hr.out]; first | rfl | (show Ending.returned (Value.int .i64 (wrap64 (M : Int))) = _; rw [a9]; rfl) | (show Ending.returned (Value.int .i64 (wrap64 (-(wrap64 (M : Int))))) = _; rw [a9, a10]; rfl), rfl⟩
end Go.Proofs.YtehakhplglhkdaaGreatDoor
