/- guiseref6's shifts, bit by bit. Conditions: ints, no negative count. -/
import Derived.Test.YtehakhplglhkdaaGreatDoorRingPlain
import Derived.Test.YtehakhplglhkdaaGreatDoorUnaryR
namespace Go.Proofs.YtehakhplglhkdaaGreatDoor
set_option linter.unusedVariables false
open Go.RowKit


theorem dbl_step (a : Int) (k : Nat) : wrap64 (wrap64 (a * 2 ^ k) + wrap64 (a * 2 ^ k)) = wrap64 (a * 2 ^ (k + 1)) := by
  rw [Int.pow_succ, ← Int.mul_assoc]
  unfold wrap64
  omega
set_option maxRecDepth 200000 in
set_option maxHeartbeats 2000000 in
theorem left_any (a b : Int) (w : World) (ha : I64 a) (hb : 0 ≤ b) : Calls Tryz.prog 72 #[.int .i64 a, .int .i64 b] w fun e w' => e = .returned (.int .i64 (wrap64 (a * 2 ^ (min b 64).toNat))) ∧ w' = w := by
  have HA := Lib.hid ha
  have HB := Lib.hid hb
  clear ha hb
  go_enter Tryz.func72, Tryz.ntmps72
  go_wp2_with fail
  go_loopw [0, 5] (fun v i wr => ∃ k : Nat, i = .int .i64 k ∧ k ≤ 64 ∧ Hid ((k : Int) ≤ b) ∧ v = .int .i64 (wrap64 (a * 2 ^ k)) ∧ Hid (wr = w)) (fun _ i _ => 64 - (intOf i).toNat)
  case atStart => exact ⟨0, rfl, by omega, HB.out, by rw [Int.pow_zero, Int.mul_one, wrap_id HA.out], rfl⟩
  case round =>
    obtain ⟨k, rfl, hk, HK, rfl, H⟩ := hrel
    obtain rfl := H.out
    clear H
    obtain ⟨L, hL⟩ : ∃ L, L = wrap64 (a * 2 ^ k) := ⟨_, rfl⟩
    obtain ⟨L2, hL2⟩ : ∃ L, L = wrap64 (a * 2 ^ (k + 1)) := ⟨_, rfl⟩
    have hs : wrap64 (L + L) = L2 := by rw [hL, hL2]; exact dbl_step a k
    have HL2 := Lib.hid hL2
    rw [← hL]
    have hkb := HK.out
    by_cases h1 : (k : Int) < b ∧ k < 64
    · have c1 : decide ((k : Int) < b) = true := decide_eq_true h1.1
      have c2 : decide ((k : Int) < 64) = true := decide_eq_true (by omega)
      have HN : Hid (((k + 1 : Nat) : Int) ≤ b) := Lib.hid (by omega)
      have hk64 : k < 64 := h1.2
      clear hL hL2 h1 hkb HK
      go_wp2
      go_roundw
      case rel => exact ⟨k + 1, by go_num, by omega, HN, by rw [← HL2.out, hs], trivial⟩
      case measure => simp [intOf]; omega
    · have he : (min b 64).toNat = k := by omega
      have HE : Hid (L = wrap64 (a * 2 ^ (min b 64).toNat)) := Lib.hid (by rw [he]; exact hL)
      by_cases h2 : (k : Int) < b
      · have c1 : decide ((k : Int) < b) = true := decide_eq_true h2
        have c2 : decide ((k : Int) < 64) = false := decide_eq_false (by omega)
        have c3 : ¬ (k : Int) < 64 := by omega
        clear hL hL2 h1 h2 hkb HK hs he
        go_wp2
        go_ret
        exact ⟨by rw [HE.out]; rfl, rfl⟩
      · have c1 : decide ((k : Int) < b) = false := decide_eq_false h2
        clear hL hL2 h1 hkb HK hs he
        go_wp2
        go_ret
        exact ⟨by rw [HE.out]; rfl, rfl⟩
theorem half_step (a : Int) (k : Nat) : a / 2 ^ k / 2 = a / 2 ^ (k + 1) := by
  have h := shr_step a k
  rwa [show (2 : Int) ^ (1 : Int).toNat = 2 from rfl] at h
theorem i64_half {a : Int} (h : I64 a) (k : Nat) : I64 (a / 2 ^ k) := by
  induction k with
  | zero => rw [Int.pow_zero, Int.ediv_one]; exact h
  | succ k ih => rw [← half_step]; unfold I64 at *; omega
theorem end_63 {a : Int} (h : I64 a) : a / 2 ^ 64 = a / 2 ^ 63 := by unfold I64 at h; omega
set_option maxRecDepth 200000 in
set_option maxHeartbeats 2000000 in
theorem right_any (a b : Int) (w : World) (ha : I64 a) (hb : 0 ≤ b) : Calls Tryz.prog 73 #[.int .i64 a, .int .i64 b] w fun e w' => e = .returned (.int .i64 (a / 2 ^ (min b 63).toNat)) ∧ w' = w := by
  have HA := Lib.hid ha
  have HB := Lib.hid hb
  clear ha hb
  go_enter Tryz.func73, Tryz.ntmps73
  go_wp2_with fail
  go_loopw [0, 5] (fun v i wr => ∃ k : Nat, i = .int .i64 k ∧ k ≤ 64 ∧ Hid ((k : Int) ≤ b) ∧ v = .int .i64 (a / 2 ^ k) ∧ Hid (wr = w)) (fun _ i _ => 64 - (intOf i).toNat)
  case atStart => exact ⟨0, rfl, by omega, HB.out, by rw [Int.pow_zero, Int.ediv_one], rfl⟩
  case round =>
    obtain ⟨k, rfl, hk, HK, rfl, H⟩ := hrel
    obtain rfl := H.out
    clear H
    obtain ⟨L, hL⟩ : ∃ L, L = a / 2 ^ k := ⟨_, rfl⟩
    obtain ⟨L2, hL2⟩ : ∃ L, L = a / 2 ^ (k + 1) := ⟨_, rfl⟩
    have hs : L / 2 = L2 := by rw [hL, hL2]; exact half_step a k
    have hI : I64 L := by rw [hL]; exact i64_half HA.out k
    have HL2 := Lib.hid hL2
    rw [← hL]
    have hkb := HK.out
    by_cases h1 : (k : Int) < b ∧ k < 64
    · have c1 : decide ((k : Int) < b) = true := decide_eq_true h1.1
      have c2 : decide ((k : Int) < 64) = true := decide_eq_true (by omega)
      have HN : Hid (((k + 1 : Nat) : Int) ≤ b) := Lib.hid (by omega)
      have hk64 : k < 64 := h1.2
      unfold I64 at hI
      have hw : wrap64 L2 = L2 := by unfold wrap64; omega
      by_cases hn : L < 0
      · have c3 : decide (L < 0) = true := decide_eq_true hn
        have hmm : L.tmod 2 = -((-L) % 2) := by rw [show L = -(-L) by omega, Int.neg_tmod, Int.tmod_eq_emod_of_nonneg (by omega)]; simp
        by_cases ho : L % 2 = 0
        · have c4 : L.tmod 2 = 0 := by rw [hmm]; omega
          have c5 : L.tdiv 2 = L2 := by rw [show L = -(-L) by omega, Int.neg_tdiv, Int.tdiv_eq_ediv_of_nonneg (by omega)]; omega
          clear hL hL2 h1 hkb HK hmm ho hI hs
          go_wp2
          go_roundw
          case rel => exact ⟨k + 1, by go_num, by omega, HN, by rw [← HL2.out, hw], trivial⟩
          case measure => simp [intOf]; omega
        · have c4 : (L.tmod 2 == 0) = false := by rw [hmm]; simp; omega
          have c4' : (L.tmod 2 != 0) = true := by rw [hmm]; simp; omega
          obtain ⟨Y, hY⟩ : ∃ Y, Y = L - 1 := ⟨_, rfl⟩
          have c5 : wrap64 (L - 1) = Y := by rw [hY]; unfold wrap64; omega
          have c6 : Y.tdiv 2 = L2 := by rw [show Y = -(-Y) by omega, Int.neg_tdiv, Int.tdiv_eq_ediv_of_nonneg (by omega)]; omega
          clear hL hL2 h1 hkb HK hmm ho hI hs hY
          go_wp2
          go_roundw
          case rel => exact ⟨k + 1, by go_num, by omega, HN, by rw [← HL2.out, hw], trivial⟩
          case measure => simp [intOf]; omega
      · have c3 : decide (L < 0) = false := decide_eq_false hn
        have c5 : L.tdiv 2 = L2 := by rw [Int.tdiv_eq_ediv_of_nonneg (by omega)]; exact hs
        have hp : 0 ≤ L := by omega
        clear hL hL2 h1 hkb HK hI
        go_wp2
        go_roundw
        case rel => exact ⟨k + 1, by go_num, by omega, HN, by rw [← HL2.out, hw], trivial⟩
        case measure => simp [intOf]; omega
    · have he : (min b 64).toNat = k := by omega
      have HE : Hid (L = a / 2 ^ (min b 63).toNat) := Lib.hid (by
        rw [hL]
        by_cases h64 : k = 64
        · have e63 : (min b 63).toNat = 63 := by omega
          rw [e63, h64]; exact end_63 HA.out
        · have e63 : (min b 63).toNat = k := by omega
          rw [e63])
      by_cases h2 : (k : Int) < b
      · have c1 : decide ((k : Int) < b) = true := decide_eq_true h2
        have c2 : decide ((k : Int) < 64) = false := decide_eq_false (by omega)
        have c3 : ¬ (k : Int) < 64 := by omega
        clear hL hL2 h1 h2 hkb HK hs he hI
        go_wp2
        go_ret
        exact ⟨by rw [HE.out]; rfl, rfl⟩
      · have c1 : decide ((k : Int) < b) = false := decide_eq_false h2
        clear hL hL2 h1 hkb HK hs he hI
        go_wp2
        go_ret
        exact ⟨by rw [HE.out]; rfl, rfl⟩
end Go.Proofs.YtehakhplglhkdaaGreatDoor
