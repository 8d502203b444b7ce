/- Plain laws: digits and what they spell; when a text is an int's literal. No program in sight. -/
import Derived.Lib.AtoiAllCases
namespace Go.Proofs.YtehakhplglhkdaaGreatDoor
set_option linter.unusedVariables false

/-- Is a byte a digit? -/
def isD (c : UInt8) : Prop := 48 ≤ c.toNat ∧ c.toNat ≤ 57
instance (c : UInt8) : Decidable (isD c) := inferInstanceAs (Decidable (_ ∧ _))
/-- What digits spell, behind a. -/
def spell : List UInt8 → Nat → Nat
  | [], a => a
  | c :: r, a => spell r (10 * a + (c.toNat - 48))
theorem spell_nil (a : Nat) : spell [] a = a := rfl
theorem spell_cons (c : UInt8) (r : List UInt8) (a : Nat) : spell (c :: r) a = spell r (10 * a + (c.toNat - 48)) := rfl
theorem spell_append (l m : List UInt8) : ∀ a : Nat, spell (l ++ m) a = spell m (spell l a) := by
  induction l with
  | nil => intro a; rfl
  | cons c r ih => intro a; rw [List.cons_append, spell_cons, spell_cons, ih]
theorem spell_ge (l : List UInt8) : ∀ a : Nat, a * 10 ^ l.length ≤ spell l a := by
  induction l with
  | nil => intro a; rw [spell_nil]; simp
  | cons c r ih =>
    intro a
    rw [spell_cons, List.length_cons, Nat.pow_succ, Nat.mul_comm (10 ^ r.length) 10, ← Nat.mul_assoc]
    exact Nat.le_trans (Nat.mul_le_mul_right _ (by omega)) (ih (10 * a + (c.toNat - 48)))
theorem spell_mono (l : List UInt8) (a : Nat) : a ≤ spell l a := by
  refine Nat.le_trans ?_ (spell_ge l a)
  exact Nat.le_mul_of_pos_right _ (Nat.pow_pos (by omega))
theorem spell_lt (l : List UInt8) : ∀ a : Nat, (∀ c ∈ l, isD c) → spell l a < (a + 1) * 10 ^ l.length := by
  induction l with
  | nil => intro a _; rw [spell_nil]; simp
  | cons c r ih =>
    intro a h
    have hc := h c (by simp)
    unfold isD at hc
    rw [spell_cons, List.length_cons, Nat.pow_succ, Nat.mul_comm (10 ^ r.length) 10, ← Nat.mul_assoc]
    exact Nat.lt_of_lt_of_le (ih (10 * a + (c.toNat - 48)) (fun x hx => h x (by simp [hx]))) (Nat.mul_le_mul_right _ (by omega))
/-- Digits, without a nought ahead. -/
def Dig (l : List UInt8) : Prop := (∀ c ∈ l, isD c) ∧ l ≠ [] ∧ (l.length = 1 ∨ (l.headD 0).toNat ≠ 48)
theorem dig_length {l : List UInt8} (h : Dig l) (hv : spell l 0 < 9223372036854775808) : l.length ≤ 19 := by
  obtain ⟨h1, h2, h3⟩ := h
  match l, h2 with
  | c :: r, _ =>
    rcases h3 with h3 | h3
    · omega
    · have hc := h1 c (by simp)
      unfold isD at hc
      simp only [List.headD_cons] at h3
      rw [spell_cons] at hv
      have hg := spell_ge r (10 * 0 + (c.toNat - 48))
      have h4 : 1 * 10 ^ r.length ≤ (10 * 0 + (c.toNat - 48)) * 10 ^ r.length := Nat.mul_le_mul_right _ (by omega)
      apply Nat.le_of_not_lt
      intro hlt
      simp only [List.length_cons] at hlt
      have h5 : 10 ^ 19 ≤ 10 ^ r.length := Nat.pow_le_pow_right (by omega) (by omega)
      omega
theorem parse_digits : ∀ (l : List UInt8) (a : Nat), (∀ c ∈ l, isD c) → a < 18446744073709551616 → Lib.parseUint10 a l = if spell l a < 18446744073709551616 then .ok (spell l a) else .range
  | [], a, _, ha => by rw [Lib.parseUint10, spell_nil, if_pos ha]
  | c :: r, a, h, ha => by
    have hc := h c (by simp)
    unfold isD at hc
    have hm := spell_mono r (10 * a + (c.toNat - 48))
    rw [Lib.parseUint10, if_pos hc, spell_cons]
    by_cases h1 : 1844674407370955162 ≤ a
    · rw [if_pos h1, if_neg (by omega)]
    · rw [if_neg h1, Nat.mul_comm a 10]
      by_cases h2 : 18446744073709551616 ≤ 10 * a + (c.toNat - 48)
      · rw [if_pos h2, if_neg (by omega)]
      · rw [if_neg h2]
        exact parse_digits r _ (fun x hx => h x (by simp [hx])) (by omega)
theorem atoi_digits {l : List UInt8} (h : Dig l) : Lib.atoiAll l = if spell l 0 < 9223372036854775808 then .ok (spell l 0 : Int) else .range := by
  obtain ⟨h1, h2, _⟩ := h
  match l, h2 with
  | c :: r, _ =>
    have hc := h1 c (by simp)
    unfold isD at hc
    rw [Lib.atoiAll_plain c r (by omega) (by omega)]
    unfold Lib.parseMag
    rw [if_neg (by simp), parse_digits _ 0 h1 (by omega)]
    by_cases hv : spell (c :: r) 0 < 18446744073709551616
    · rw [if_pos hv]
      unfold Lib.signless
      dsimp only
      by_cases hw : spell (c :: r) 0 < 9223372036854775808
      · rw [if_pos hw, if_neg (by omega)]
      · rw [if_neg hw, if_pos (by omega)]
    · rw [if_neg hv, if_neg (by omega)]
      rfl
/-- The reference's test: an int's literal. -/
def RefI (l : List UInt8) : Prop := 1 ≤ l.length ∧ l.length ≤ 19 ∧ ¬ (1 < l.length ∧ (l.headD 0).toNat = 48) ∧ (∀ c ∈ l, isD c) ∧ spell l 0 < 9223372036854775808
theorem refI_iff (l : List UInt8) : RefI l ↔ Dig l ∧ spell l 0 < 9223372036854775808 := by
  constructor
  · rintro ⟨h1, h2, h3, h4, h5⟩
    refine ⟨⟨h4, fun e => by subst e; simp at h1, ?_⟩, h5⟩
    by_cases h : l.length = 1
    · exact .inl h
    · exact .inr (fun e => h3 ⟨by omega, e⟩)
  · rintro ⟨hd, h5⟩
    have hl := dig_length hd h5
    obtain ⟨h1, h2, h3⟩ := hd
    have hpos : 1 ≤ l.length := List.length_pos_iff.2 h2
    exact ⟨hpos, hl, fun ⟨ha, hb⟩ => by rcases h3 with h3 | h3 <;> omega, h1, h5⟩
theorem spell_take {l : List UInt8} {k : Nat} (h : k < l.length) (a : Nat) : spell (l.take (k + 1)) a = 10 * spell (l.take k) a + (l[k].toNat - 48) := by
  rw [List.take_succ_eq_append_getElem h, spell_append]
  rfl
theorem spell_take_le (l : List UInt8) (k : Nat) (a : Nat) : spell (l.take k) a ≤ spell l a := by
  have := spell_mono (l.drop k) (spell (l.take k) a)
  rw [← spell_append, List.take_append_drop] at this
  exact this
end Go.Proofs.YtehakhplglhkdaaGreatDoor
