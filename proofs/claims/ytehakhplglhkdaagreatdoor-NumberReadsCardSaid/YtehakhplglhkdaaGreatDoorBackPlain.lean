/- Plain laws: an int of less than 53 bits as a float and back; numerals. No program in sight. -/
import Derived.Test.YtehakhplglhkdaaGreatDoorFloats
import Derived.Lib.AtoiAllCases
import Derived.Lib.ItoaMem
namespace Go.Proofs.YtehakhplglhkdaaGreatDoor
open Ieee

/-! ### Small ints as floats -/
theorem log2_le (m : Nat) (h0 : m ≠ 0) (h : m < 9007199254740992) : m.log2 ≤ 52 := by
  have := (Nat.log2_lt h0 (k := 53)).2 (by simpa using h)
  omega
/-- The whole significand. -/
def kept (m : Nat) : Nat := m * 2 ^ (52 - m.log2)
theorem kept_range (m : Nat) (h0 : m ≠ 0) (h : m < 9007199254740992) : 4503599627370496 ≤ kept m ∧ kept m < 9007199254740992 := by
  have hl := log2_le m h0 h
  have h1 : 2 ^ m.log2 ≤ m := Nat.log2_self_le h0
  have h2 : m < 2 ^ (m.log2 + 1) := Nat.lt_log2_self
  unfold kept
  have e1 : 2 ^ m.log2 * 2 ^ (52 - m.log2) = 4503599627370496 := by rw [← Nat.pow_add, show m.log2 + (52 - m.log2) = 52 by omega]
  have e2 : 2 ^ (m.log2 + 1) * 2 ^ (52 - m.log2) = 9007199254740992 := by rw [← Nat.pow_add, show m.log2 + 1 + (52 - m.log2) = 53 by omega]
  have hp : 0 < 2 ^ (52 - m.log2) := Nat.two_pow_pos _
  constructor
  · rw [← e1]; exact Nat.mul_le_mul_right _ h1
  · rw [← e2]; exact Nat.mul_lt_mul_of_pos_right h2 hp
theorem nearest_small (neg : Bool) (m : Nat) (h0 : m ≠ 0) (h : m < 9007199254740992) :
    double.nearest neg m 0 = double.word neg ((m.log2 + 1022) * 4503599627370496 + kept m) := by
  have hl := log2_le m h0 h
  obtain ⟨k1, k2⟩ := kept_range m h0 h
  have hlp : double.leastPlace = -1074 := by decide
  have hfb : double.fractionBits = 52 := rfl
  have hbin : double.binade = 4503599627370496 := by decide
  have hinf : double.infRung = 9218868437227405312 := by decide
  unfold Format.nearest
  rw [if_neg h0]
  simp only [hlp, hfb, hbin, hinf]
  have hmax : max ((0 : Int) + (m.log2 : Int) - ((52 : Nat) : Int)) (-1074) = (m.log2 : Int) - 52 := by omega
  rw [hmax]
  have e1 : (0 - ((m.log2 : Int) - 52)).toNat = 52 - m.log2 := by omega
  have e2 : ((m.log2 : Int) - 52 - 0).toNat = 0 := by omega
  have e3 : ((m.log2 : Int) - 52 - -1074).toNat = m.log2 + 1022 := by omega
  rw [e1, e2, e3]
  have hc : Toward.even.cut neg (m <<< (52 - m.log2)) 0 = kept m := by
    unfold Toward.cut kept
    simp [Nat.mod_one, Nat.shiftLeft_eq]
  rw [hc, Nat.min_eq_left (by omega)]
theorem read_small (n : Int) (h0 : n ≠ 0) (h : n.natAbs < 9007199254740992) :
    double.read (floatOfInt .f64 n) = .number (decide (n < 0)) (kept n.natAbs) ((n.natAbs.log2 : Int) - 52) := by
  have hm : n.natAbs ≠ 0 := by omega
  have hl := log2_le _ hm h
  obtain ⟨k1, k2⟩ := kept_range _ hm h
  have hlp : double.leastPlace = -1074 := by decide
  have hbin : double.binade = 4503599627370496 := by decide
  have hinf : double.infRung = 9218868437227405312 := by decide
  have hsw : double.signWeight = 9223372036854775808 := by decide
  show double.read (double.nearest (decide (n < 0)) n.natAbs 0) = _
  rw [nearest_small _ _ hm h]
  generalize kept n.natAbs = K at *
  generalize n.natAbs.log2 = L at *
  have hw : double.word (decide (n < 0)) ((L + 1022) * 4503599627370496 + K) / double.signWeight % 2 = (decide (n < 0)).toNat ∧ double.word (decide (n < 0)) ((L + 1022) * 4503599627370496 + K) % double.signWeight = (L + 1022) * 4503599627370496 + K := by
    unfold Format.word
    rw [hsw]
    by_cases hn : n < 0
    · simp [hn]; omega
    · simp [hn]; omega
  unfold Format.read
  rw [hw.1, hw.2]
  dsimp only
  rw [hbin, hinf, hlp, if_neg (by omega), if_pos (by omega)]
  congr 1
  · by_cases hn : n < 0 <;> simp [hn]
  · omega
  · omega

theorem fl_zero : floatOfInt .f64 0 = 0 := by kernel_rfl
theorem fl_notnan (n : Int) (h : n.natAbs < 9007199254740992) : (double.read (floatOfInt .f64 n)).isNaN = false := by
  by_cases h0 : n = 0
  · subst h0; rw [fl_zero]; decide
  · rw [read_small n h0 h]; rfl
theorem fl_back (n : Int) (h : n.natAbs < 9007199254740992) : (double.read (floatOfInt .f64 n)).toInt .zero = some n := by
  by_cases h0 : n = 0
  · subst h0; rw [fl_zero]; decide
  · rw [read_small n h0 h]
    have hm : n.natAbs ≠ 0 := by omega
    have hl := log2_le _ hm h
    obtain ⟨k1, k2⟩ := kept_range _ hm h
    have e1 : ((n.natAbs.log2 : Int) - 52).toNat = 0 := by omega
    have e2 : (-((n.natAbs.log2 : Int) - 52)).toNat = 52 - n.natAbs.log2 := by omega
    have hk0 : kept n.natAbs ≠ 0 := by omega
    have hlog : 52 ≤ (kept n.natAbs).log2 := (Nat.le_log2 hk0).2 (by simpa using k1)
    have hmin : min (52 - n.natAbs.log2) ((kept n.natAbs).log2 + 2) = 52 - n.natAbs.log2 := by omega
    have hq : kept n.natAbs / 2 ^ (52 - n.natAbs.log2) = n.natAbs := Nat.mul_div_cancel _ (Nat.two_pow_pos _)
    unfold Datum.toInt Datum.integral Toward.cut
    simp only [e1, e2, Nat.shiftLeft_zero, hmin, Nat.one_shiftLeft, hq, Bool.toNat_false, Nat.add_zero]
    unfold signed
    by_cases hn : n < 0
    · simp [hn]; omega
    · simp [hn]; omega
theorem fl_ge (n : Int) (h : n.natAbs < 9007199254740992) : double.order (floatOfInt .f64 n) 14114281232179134464 = some .gt := by
  by_cases h0 : n = 0
  · subst h0; rw [fl_zero]; kernel_rfl
  · have hm : n.natAbs ≠ 0 := by omega
    have hl := log2_le _ hm h
    obtain ⟨k1, k2⟩ := kept_range _ hm h
    unfold Format.order
    rw [read_small n h0 h, show double.read 14114281232179134464 = .number true 4503599627370496 11 by kernel_rfl]
    unfold Datum.order
    dsimp only
    have e1 : (((n.natAbs.log2 : Int) - 52) - min ((n.natAbs.log2 : Int) - 52) 11).toNat = 0 := by omega
    have e2 : (11 - min ((n.natAbs.log2 : Int) - 52) 11).toNat = 63 - n.natAbs.log2 := by omega
    rw [e1, e2]
    unfold signed
    have hp : 2 ^ 11 ≤ 2 ^ (63 - n.natAbs.log2) := Nat.pow_le_pow_right (by omega) (by omega)
    rw [Nat.shiftLeft_zero, Nat.shiftLeft_eq]
    have hb : 9223372036854775808 ≤ 4503599627370496 * 2 ^ (63 - n.natAbs.log2) := by
      have := Nat.mul_le_mul_left 4503599627370496 hp
      simpa using this
    generalize 4503599627370496 * 2 ^ (63 - n.natAbs.log2) = M at *
    generalize kept n.natAbs = K at *
    obtain ⟨x, hx⟩ : ∃ x : Int, x = if decide (n < 0) = true then -(K : Int) else (K : Int) := ⟨_, rfl⟩
    have hr : -(K : Int) ≤ x ∧ x ≤ K := by rw [hx]; split <;> omega
    rw [← hx, if_pos rfl]
    simp only [compare, compareOfLessAndEq]
    rw [if_neg (by omega), if_neg (by omega)]
theorem fl_lt2 (n : Int) (h : n.natAbs < 9007199254740992) : double.order (floatOfInt .f64 n) 4890909195324358656 = some .lt := by
  by_cases h0 : n = 0
  · subst h0; rw [fl_zero]; kernel_rfl
  · have hm : n.natAbs ≠ 0 := by omega
    have hl := log2_le _ hm h
    obtain ⟨k1, k2⟩ := kept_range _ hm h
    unfold Format.order
    rw [read_small n h0 h, show double.read 4890909195324358656 = .number false 4503599627370496 11 by kernel_rfl]
    unfold Datum.order
    dsimp only
    have e1 : (((n.natAbs.log2 : Int) - 52) - min ((n.natAbs.log2 : Int) - 52) 11).toNat = 0 := by omega
    have e2 : (11 - min ((n.natAbs.log2 : Int) - 52) 11).toNat = 63 - n.natAbs.log2 := by omega
    rw [e1, e2]
    unfold signed
    have hp : 2 ^ 11 ≤ 2 ^ (63 - n.natAbs.log2) := Nat.pow_le_pow_right (by omega) (by omega)
    rw [Nat.shiftLeft_zero, Nat.shiftLeft_eq]
    have hb : 9223372036854775808 ≤ 4503599627370496 * 2 ^ (63 - n.natAbs.log2) := by
      have := Nat.mul_le_mul_left 4503599627370496 hp
      simpa using this
    generalize 4503599627370496 * 2 ^ (63 - n.natAbs.log2) = M at *
    generalize kept n.natAbs = K at *
    obtain ⟨x, hx⟩ : ∃ x : Int, x = if decide (n < 0) = true then -(K : Int) else (K : Int) := ⟨_, rfl⟩
    have hr : -(K : Int) ≤ x ∧ x ≤ K := by rw [hx]; split <;> omega
    rw [← hx, if_neg (by simp)]
    simp only [compare, compareOfLessAndEq]
    rw [if_pos (by omega)]

/-! ### Numerals -/
theorem dig_val (d : Nat) (h : d < 10) : (UInt8.ofNat (48 + d)).toNat = 48 + d := by
  rw [UInt8.toNat_ofNat']; omega
theorem dec_all (u : Nat) : ∀ c ∈ Lib.decDigits u, 48 ≤ c.toNat ∧ c.toNat ≤ 57 := by
  induction u using Lib.decDigits.induct with
  | case1 u h =>
    rw [Lib.decDigits, dif_pos h]
    intro c hc
    simp only [List.mem_singleton] at hc
    subst hc
    rw [dig_val u h]; omega
  | case2 u h ih =>
    rw [Lib.decDigits, dif_neg h]
    intro c hc
    rcases List.mem_append.1 hc with hc | hc
    · exact ih c hc
    · simp only [List.mem_singleton] at hc
      subst hc
      rw [dig_val _ (by omega)]; omega
theorem dec_ne (u : Nat) : Lib.decDigits u ≠ [] := by
  rw [Lib.decDigits]; split <;> simp
theorem dec_head (u : Nat) (h : u ≠ 0) : ∃ c r, Lib.decDigits u = c :: r ∧ c.toNat ≠ 48 := by
  induction u using Lib.decDigits.induct with
  | case1 u hu =>
    refine ⟨_, [], by rw [Lib.decDigits, dif_pos hu], ?_⟩
    rw [dig_val u hu]; omega
  | case2 u hu ih =>
    obtain ⟨c, r, e, hc⟩ := ih (by omega)
    exact ⟨c, r ++ [UInt8.ofNat (48 + u % 10)], by rw [Lib.decDigits, dif_neg hu, e]; rfl, hc⟩
theorem parse_dec (u : Nat) (h : u < 9223372036854775808) : ∀ r, Lib.parseUint10 0 (Lib.decDigits u ++ r) = Lib.parseUint10 u r := by
  induction u using Lib.decDigits.induct with
  | case1 u hu =>
    intro r
    rw [Lib.decDigits, dif_pos hu]
    show Lib.parseUint10 0 (UInt8.ofNat (48 + u) :: r) = _
    rw [Lib.parseUint10, dig_val u hu, if_pos (by omega), if_neg (by omega), if_neg (by omega)]
    congr 1
    omega
  | case2 u hu ih =>
    intro r
    rw [Lib.decDigits, dif_neg hu, List.append_assoc, ih (by omega)]
    show Lib.parseUint10 (u / 10) (UInt8.ofNat (48 + u % 10) :: r) = _
    rw [Lib.parseUint10, dig_val _ (by omega), if_pos (by omega), if_neg (by omega), if_neg (by omega)]
    congr 1
    omega
theorem atoi_dec (u : Nat) (h : u < 9223372036854775808) : Lib.atoiAll (Lib.decDigits u) = .ok (u : Int) := by
  have hp := parse_dec u h []
  rw [List.append_nil] at hp
  have hne := dec_ne u
  have hall := dec_all u
  generalize Lib.decDigits u = l at *
  match l, hne with
  | c :: r, _ =>
    have hc := hall c (by simp)
    rw [Lib.atoiAll_plain c r (by omega) (by omega)]
    unfold Lib.parseMag
    rw [if_neg (by simp), hp]
    show Lib.signless (.ok u) = _
    unfold Lib.signless
    simp only
    rw [if_neg (by omega)]
end Go.Proofs.YtehakhplglhkdaaGreatDoor
