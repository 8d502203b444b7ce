/- A float's whole part: what the order, the cut towards zero and the halving of its bits say. No program in sight. -/
import Derived.Test.YtehakhplglhkdaaGreatDoorFloats
import Derived.Laws.FloatArith
namespace Go.Proofs.YtehakhplglhkdaaGreatDoor
set_option linter.unusedVariables false
open Ieee

/-- The exponent's field. -/
def expo (F : Nat) : Nat := F / 4503599627370496 % 2048
/-- The significand. -/
def signi (F : Nat) : Nat := F % 4503599627370496 + 4503599627370496
/-- What of the significand is whole. -/
def wholeMag (F : Nat) : Nat := if expo F ≤ 1075 then signi F / 2 ^ (1075 - expo F) else signi F * 2 ^ (expo F - 1075)
/-- A float's whole part; the least int, if that is none. -/
def wholeOf (F : Nat) : Int := if 1085 < expo F then -9223372036854775808 else if F / 9223372036854775808 % 2 = 1 then -(wholeMag F : Int) else (wholeMag F : Int)

theorem signi_lt (F : Nat) : 4503599627370496 ≤ signi F ∧ signi F < 9007199254740992 := by unfold signi; omega
theorem wholeMag_lt (F : Nat) (h : expo F ≤ 1085) : wholeMag F < 9223372036854775808 := by
  have hs := signi_lt F
  unfold wholeMag
  split
  · exact Nat.lt_of_le_of_lt (Nat.div_le_self _ _) (by omega)
  · have h1 : 2 ^ (expo F - 1075) ≤ 2 ^ 10 := Nat.pow_le_pow_right (by omega) (by omega)
    have h2 : signi F * 2 ^ (expo F - 1075) ≤ 9007199254740991 * 2 ^ 10 := Nat.mul_le_mul (by omega) h1
    omega
theorem read_norm (F : Nat) (hF : F < 18446744073709551616) (h0 : expo F ≠ 0) (h1 : expo F < 2047) :
    double.read F = .number (F / 9223372036854775808 % 2 == 1) (signi F) ((expo F : Int) - 1075) := by
  have e0 : double.leastPlace = -1074 := by decide
  have e1 : double.signWeight = 9223372036854775808 := by decide
  have e2 : double.binade = 4503599627370496 := by decide
  have e3 : double.infRung = 9218868437227405312 := by decide
  unfold expo at *
  unfold Format.read
  rw [e1, e2, e3, e0]
  dsimp only
  rw [if_neg (by omega), if_pos (by omega)]
  congr 1
  · unfold signi; omega
  · omega
theorem read_sub (F : Nat) (hF : F < 18446744073709551616) (h0 : expo F = 0) :
    double.read F = .number (F / 9223372036854775808 % 2 == 1) (F % 4503599627370496) (-1074) := by
  have e0 : double.leastPlace = -1074 := by decide
  have e1 : double.signWeight = 9223372036854775808 := by decide
  have e2 : double.binade = 4503599627370496 := by decide
  have e3 : double.infRung = 9218868437227405312 := by decide
  unfold expo at *
  unfold Format.read
  rw [e1, e2, e3, e0]
  dsimp only
  rw [if_pos (by omega)]
  congr 1
  omega
theorem read_inf (F : Nat) (hF : F < 18446744073709551616) (h0 : expo F = 2047) :
    double.read F = .infinity (F / 9223372036854775808 % 2 == 1) ∨ ∃ t, double.read F = .nan (F / 9223372036854775808 % 2 == 1) t := by
  have e0 : double.leastPlace = -1074 := by decide
  have e1 : double.signWeight = 9223372036854775808 := by decide
  have e2 : double.binade = 4503599627370496 := by decide
  have e3 : double.infRung = 9218868437227405312 := by decide
  unfold expo at *
  unfold Format.read
  rw [e1, e2, e3, e0]
  dsimp only
  rw [if_neg (by omega), if_neg (by omega)]
  split
  · exact .inl rfl
  · exact .inr ⟨_, rfl⟩

theorem two_lo : double.read 14114281232179134464 = .number true 4503599627370496 11 := by kernel_rfl
theorem two_hi : double.read 4890909195324358656 = .number false 4503599627370496 11 := by kernel_rfl
theorem cmp_gt {a b : Int} (h : b < a) : compare a b = .gt := by
  simp only [compare, compareOfLessAndEq]
  rw [if_neg (by omega), if_neg (by omega)]
theorem cmp_lt {a b : Int} (h : a < b) : compare a b = .lt := by
  simp only [compare, compareOfLessAndEq]
  rw [if_pos (by omega)]
theorem signed_range (s : Bool) (m k : Nat) : signed s m k = ((m <<< k : Nat) : Int) ∧ s = false ∨ signed s m k = -((m <<< k : Nat) : Int) ∧ s = true := by
  unfold signed
  cases s <;> simp

/-- A number below 2 to the 63 lies between. -/
theorem small_order (s : Bool) (m : Nat) (i : Int) (hm : m < 9007199254740992) (hi : i ≤ 10) :
    (Datum.number s m i).order (.number true 4503599627370496 11) = some .gt ∧ (Datum.number s m i).order (.number false 4503599627370496 11) = some .lt := by
  unfold Datum.order
  dsimp only
  have e1 : (i - min i 11).toNat = 0 := by omega
  have e2 : (11 - min i 11).toNat = (11 - i).toNat := by omega
  rw [e1, e2]
  have hp : 2 ^ 1 ≤ 2 ^ (11 - i).toNat := Nat.pow_le_pow_right (by omega) (by omega)
  have hb : 9007199254740992 ≤ 4503599627370496 * 2 ^ (11 - i).toNat := by
    have := Nat.mul_le_mul_left 4503599627370496 hp
    simpa using this
  have hT : signed true 4503599627370496 (11 - i).toNat = -((4503599627370496 * 2 ^ (11 - i).toNat : Nat) : Int) := by simp [signed, Nat.shiftLeft_eq]
  have hU : signed false 4503599627370496 (11 - i).toNat = ((4503599627370496 * 2 ^ (11 - i).toNat : Nat) : Int) := by simp [signed, Nat.shiftLeft_eq]
  rw [hT, hU]
  generalize 4503599627370496 * 2 ^ (11 - i).toNat = M at *
  obtain ⟨x, hx, hr⟩ : ∃ x : Int, signed s m 0 = x ∧ -(m : Int) ≤ x ∧ x ≤ m := ⟨_, rfl, by cases s <;> simp [signed] <;> omega⟩
  rw [hx, cmp_gt (by omega), cmp_lt (by omega)]
  exact ⟨rfl, rfl⟩
/-- A number of 2 to the 63 or more lies outside. -/
theorem big_order_pos (m : Nat) (i : Int) (hm : 4503599627370496 ≤ m) (hi : 11 ≤ i) :
    (Datum.number false m i).order (.number true 4503599627370496 11) = some .gt ∧ (Datum.number false m i).order (.number false 4503599627370496 11) ≠ some .lt := by
  unfold Datum.order
  dsimp only
  have e1 : (i - min i 11).toNat = (i - 11).toNat := by omega
  have e2 : (11 - min i 11).toNat = 0 := by omega
  rw [e1, e2]
  have hp : 1 ≤ 2 ^ (i - 11).toNat := Nat.one_le_two_pow
  have hb : m ≤ m * 2 ^ (i - 11).toNat := by
    have := Nat.mul_le_mul_left m hp
    simpa using this
  have hx : signed false m (i - 11).toNat = ((m * 2 ^ (i - 11).toNat : Nat) : Int) := by simp [signed, Nat.shiftLeft_eq]
  rw [hx]
  generalize m * 2 ^ (i - 11).toNat = M at *
  have hT : signed true 4503599627370496 0 = -4503599627370496 := by simp [signed]
  have hU : signed false 4503599627370496 0 = 4503599627370496 := by simp [signed]
  rw [hT, hU, cmp_gt (by omega)]
  refine ⟨rfl, fun h => ?_⟩
  simp only [compare, compareOfLessAndEq] at h
  rw [if_neg (by omega)] at h
  split at h <;> simp at h
theorem big_order_neg (m : Nat) (i : Int) (hm : 4503599627370496 ≤ m) (hi : 11 ≤ i) (hne : m ≠ 4503599627370496 ∨ i ≠ 11) :
    (Datum.number true m i).order (.number true 4503599627370496 11) = some .lt := by
  unfold Datum.order
  dsimp only
  have e1 : (i - min i 11).toNat = (i - 11).toNat := by omega
  have e2 : (11 - min i 11).toNat = 0 := by omega
  rw [e1, e2]
  have hb : 4503599627370496 < m * 2 ^ (i - 11).toNat := by
    by_cases h : i = 11
    · subst h; simp; omega
    · have hp : 2 ^ 1 ≤ 2 ^ (i - 11).toNat := Nat.pow_le_pow_right (by omega) (by omega)
      have := Nat.mul_le_mul_left m hp
      omega
  have hx : signed true m (i - 11).toNat = -((m * 2 ^ (i - 11).toNat : Nat) : Int) := by simp [signed, Nat.shiftLeft_eq]
  rw [hx]
  generalize m * 2 ^ (i - 11).toNat = M at *
  have hT : signed true 4503599627370496 0 = -4503599627370496 := by simp [signed]
  rw [hT, cmp_lt (by omega)]

theorem div_gap (m k : Nat) : m / 2 ^ min k (m.log2 + 2) = m / 2 ^ k := by
  by_cases h : k ≤ m.log2 + 2
  · rw [Nat.min_eq_left h]
  · have h1 : m < 2 ^ (m.log2 + 1) := Nat.lt_log2_self
    have h2 : 2 ^ (m.log2 + 1) ≤ 2 ^ (m.log2 + 2) := Nat.pow_le_pow_right (by omega) (by omega)
    have h3 : 2 ^ (m.log2 + 1) ≤ 2 ^ k := Nat.pow_le_pow_right (by omega) (by omega)
    rw [Nat.min_eq_right (by omega), Nat.div_eq_of_lt (by omega), Nat.div_eq_of_lt (by omega)]
theorem pow_big (a k : Nat) (h : a < 2 ^ 53) (hk : 53 ≤ k) : a / 2 ^ k = 0 := Nat.div_eq_of_lt (Nat.lt_of_lt_of_le h (Nat.pow_le_pow_right (by omega) hk))
theorem cut_zero (s : Bool) (m k : Nat) : Toward.zero.cut s m k = m / 2 ^ k := by
  unfold Toward.cut
  simp only [Nat.one_shiftLeft, Bool.toNat_false, Nat.add_zero]
  exact div_gap m k
theorem toInt_number (s : Bool) (m : Nat) (i : Int) : (Datum.number s m i).toInt .zero = some (if s then -((m * 2 ^ i.toNat / 2 ^ (-i).toNat : Nat) : Int) else ((m * 2 ^ i.toNat / 2 ^ (-i).toNat : Nat) : Int)) := by
  unfold Datum.toInt Datum.integral
  simp only [cut_zero, Nat.shiftLeft_eq]
  unfold signed
  simp

/-- How a float stands to the bounds of an int, and what it is, cut. -/
inductive Cut (F : Nat) : Prop where
  | inside (a : double.order F 14114281232179134464 = some .gt ∨ double.order F 14114281232179134464 = some .eq) (b : double.order F 4890909195324358656 = some .lt) (c : floatToIntVal .f64 F .i64 = some (wholeOf F))
  | low (a : double.order F 14114281232179134464 = some .lt ∨ double.order F 14114281232179134464 = none) (c : wholeOf F = -9223372036854775808)
  | high (a : double.order F 14114281232179134464 = some .gt) (b : double.order F 4890909195324358656 = some .eq ∨ double.order F 4890909195324358656 = some .gt) (c : wholeOf F = -9223372036854775808)

theorem toIntVal {F : Nat} {n : Int} (h : (double.read F).toInt .zero = some n) (h1 : -9223372036854775808 ≤ n) (h2 : n ≤ 9223372036854775807) : floatToIntVal .f64 F .i64 = some n := by
  unfold floatToIntVal
  have e : FloatKind.f64.decode F = double.read F := rfl
  have m1 : IntKind.i64.min = -9223372036854775808 := by decide
  have m2 : IntKind.i64.max = 9223372036854775807 := by decide
  rw [e, h]
  simp only [m1, m2]
  rw [if_pos ⟨h1, h2⟩]
theorem ne_lt {o : Option Ordering} (h : o ≠ some .lt) (hn : o ≠ none) : o = some .eq ∨ o = some .gt := by
  cases o with
  | none => exact absurd rfl hn
  | some x => cases x <;> simp at *

theorem cut_all (F : Nat) (hF : F < 18446744073709551616) : Cut F := by
  have hs := signi_lt F
  by_cases hbig : 1085 < expo F
  · have hw : wholeOf F = -9223372036854775808 := by unfold wholeOf; rw [if_pos hbig]
    by_cases hinf : expo F = 2047
    · rcases read_inf F hF hinf with hr | ⟨t, hr⟩
      · cases hsg : (F / 9223372036854775808 % 2 == 1) with
        | true => exact .low (.inl (by unfold Format.order; rw [hr, hsg, two_lo]; rfl)) hw
        | false => exact .high (by unfold Format.order; rw [hr, hsg, two_lo]; rfl) (.inr (by unfold Format.order; rw [hr, hsg, two_hi]; rfl)) hw
      · exact .low (.inr (by unfold Format.order; rw [hr]; rfl)) hw
    · have hr := read_norm F hF (by omega) (by have : expo F < 2048 := Nat.mod_lt _ (by omega); omega)
      cases hsg : (F / 9223372036854775808 % 2 == 1) with
      | false =>
        obtain ⟨o1, o2⟩ := big_order_pos (signi F) ((expo F : Int) - 1075) hs.1 (by omega)
        refine .high (by unfold Format.order; rw [hr, hsg, two_lo]; exact o1) (ne_lt ?_ ?_ ) hw
        · unfold Format.order; rw [hr, hsg, two_hi]; exact o2
        · unfold Format.order; rw [hr, hsg, two_hi]; simp [Datum.order]
      | true =>
        by_cases he : signi F = 4503599627370496 ∧ expo F = 1086
        · have : F = 14114281232179134464 := by
            obtain ⟨h1, h2⟩ := he
            unfold signi at h1
            unfold expo at h2
            simp at hsg
            omega
          subst this
          refine .inside (.inr (by kernel_rfl)) (by kernel_rfl) ?_
          rw [hw]
          kernel_rfl
        · refine .low (.inl ?_) hw
          unfold Format.order; rw [hr, hsg, two_lo]
          exact big_order_neg _ _ hs.1 (by omega) (by omega)
  · have hw : wholeOf F = if F / 9223372036854775808 % 2 = 1 then -(wholeMag F : Int) else (wholeMag F : Int) := by unfold wholeOf; rw [if_neg hbig]
    have hl := wholeMag_lt F (by omega)
    have rng : -9223372036854775808 ≤ wholeOf F ∧ wholeOf F ≤ 9223372036854775807 := by rw [hw]; split <;> omega
    by_cases h0 : expo F = 0
    · have hr := read_sub F hF h0
      obtain ⟨o1, o2⟩ := small_order (F / 9223372036854775808 % 2 == 1) (F % 4503599627370496) (-1074) (by omega) (by omega)
      refine .inside (.inl (by unfold Format.order; rw [hr, two_lo]; exact o1)) (by unfold Format.order; rw [hr, two_hi]; exact o2) (toIntVal ?_ rng.1 rng.2)
      rw [hr, toInt_number, hw]
      have m0 : F % 4503599627370496 * 2 ^ (-1074 : Int).toNat / 2 ^ (-(-1074 : Int)).toNat = 0 := by
        rw [show (-1074 : Int).toNat = 0 by decide, Nat.pow_zero, Nat.mul_one]
        exact pow_big _ _ (by omega) (by decide)
      have m1 : wholeMag F = 0 := by
        unfold wholeMag
        rw [if_pos (by omega)]
        exact pow_big _ _ (by omega) (by omega)
      rw [m0, m1]
      simp
    · have hr := read_norm F hF h0 (by omega)
      obtain ⟨o1, o2⟩ := small_order (F / 9223372036854775808 % 2 == 1) (signi F) ((expo F : Int) - 1075) (by omega) (by omega)
      refine .inside (.inl (by unfold Format.order; rw [hr, two_lo]; exact o1)) (by unfold Format.order; rw [hr, two_hi]; exact o2) (toIntVal ?_ rng.1 rng.2)
      rw [hr, toInt_number, hw]
      have m1 : signi F * 2 ^ ((expo F : Int) - 1075).toNat / 2 ^ (-((expo F : Int) - 1075)).toNat = wholeMag F := by
        unfold wholeMag
        split
        · rw [show ((expo F : Int) - 1075).toNat = 0 by omega, show (-((expo F : Int) - 1075)).toNat = 1075 - expo F by omega]
          simp
        · rw [show ((expo F : Int) - 1075).toNat = expo F - 1075 by omega, show (-((expo F : Int) - 1075)).toNat = 0 by omega]
          simp
      rw [m1]
      simp
end Go.Proofs.YtehakhplglhkdaaGreatDoor
