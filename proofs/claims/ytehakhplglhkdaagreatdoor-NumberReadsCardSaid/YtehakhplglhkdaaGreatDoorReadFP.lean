/- Plain laws: when a text is a float's literal, and what it is. No program in sight. -/
import Derived.Test.YtehakhplglhkdaaGreatDoorReadPlain
import Derived.Test.YtehakhplglhkdaaGreatDoorBackPlain
import Derived.Test.YtehakhplglhkdaaGreatDoorParse15
namespace Go.Proofs.YtehakhplglhkdaaGreatDoor
set_option linter.unusedVariables false
open Ieee

theorem pows15 : (List.range 15).map (fun e => floatOfInt .f64 ((10 ^ e : Nat) : Int)) = pows.take 15 := by kernel_rfl
theorem pow_at {e : Nat} (h : e < 15) : pows[e]? = some (floatOfInt .f64 ((10 ^ e : Nat) : Int)) := by
  have := congrArg (·[e]?) pows15
  simp only [List.getElem?_map, List.getElem?_range h, Option.map_some, List.getElem?_take, h, if_true] at this
  exact this.symm
theorem nearest_notnan (s : Bool) (m : Nat) (i : Int) : (double.read (double.nearest s m i)).isNaN = false := by
  rw [nan_bits]
  refine decide_eq_false ?_
  have e1 : double.signWeight = 0x8000000000000000 := by decide
  have e3 : double.infRung = 0x7FF0000000000000 := by decide
  have key : ∀ (b : Bool) (R : Nat), R ≤ 0x7FF0000000000000 → ¬ 0x7FF0000000000000 < double.word b R % 0x8000000000000000 := by
    intro b R hR
    unfold Format.word
    rw [e1]
    cases b <;> simp <;> omega
  unfold Format.nearest
  split
  · exact key _ 0 (by omega)
  · dsimp only
    rw [e3]
    exact key _ _ (Nat.min_le_right _ _)
/-- The bits of n by the e-th power of ten. -/
def qbits (n e : Nat) : Nat := (floatBits .quo .f64 (floatOfInt .f64 (n : Int)) (floatOfInt .f64 ((10 ^ e : Nat) : Int))).getD 0
theorem read_int (n : Nat) (h : n < 9007199254740992) : ∃ s m i, double.read (floatOfInt .f64 (n : Int)) = .number s m i ∧ (n ≠ 0 → m ≠ 0) := by
  by_cases h0 : n = 0
  · subst h0
    exact ⟨false, 0, -1074, by kernel_rfl, fun h => absurd rfl h⟩
  · refine ⟨_, _, _, read_small (n : Int) (by omega) (by simpa using h), fun _ => ?_⟩
    have := (kept_range n h0 h).1
    simp only [Int.natAbs_natCast]
    omega
theorem q_some {n e : Nat} (hn : n < 1000000000000000) (he : e < 15) : floatBits .quo .f64 (floatOfInt .f64 (n : Int)) (floatOfInt .f64 ((10 ^ e : Nat) : Int)) = some (qbits n e) ∧ (double.read (qbits n e)).isNaN = false := by
  have hp : 10 ^ e < 9007199254740992 := by
    have : 10 ^ e ≤ 10 ^ 14 := Nat.pow_le_pow_right (by omega) (by omega)
    omega
  have hp0 : 10 ^ e ≠ 0 := Nat.pos_iff_ne_zero.1 (Nat.pow_pos (by omega))
  obtain ⟨s, m, i, h1, _⟩ := read_int n (by omega)
  obtain ⟨t, k, j, h2, h3⟩ := read_int (10 ^ e) hp
  have hk := h3 hp0
  have hd : floatBits .quo .f64 (floatOfInt .f64 (n : Int)) (floatOfInt .f64 ((10 ^ e : Nat) : Int)) = double.div (floatOfInt .f64 (n : Int)) (floatOfInt .f64 ((10 ^ e : Nat) : Int)) := rfl
  have hq : ∃ s m i, double.div (floatOfInt .f64 (n : Int)) (floatOfInt .f64 ((10 ^ e : Nat) : Int)) = some (double.nearest s m i) := by
    unfold Format.div
    rw [h1, h2]
    unfold Datum.quotient
    dsimp only
    rw [if_neg hk]
    exact ⟨_, _, _, rfl⟩
  obtain ⟨s', m', i', hq⟩ := hq
  have hb : qbits n e = double.nearest s' m' i' := by unfold qbits; rw [hd, hq]; rfl
  rw [hd, hq, hb]
  exact ⟨rfl, nearest_notnan _ _ _⟩
theorem zeros15 : (List.range 15).map (fun e => qbits 0 e) = List.replicate 15 0 := by kernel_rfl
theorem q_zero {e : Nat} (h : e < 15) : qbits 0 e = 0 := by
  have := congrArg (·[e]?) zeros15
  simp only [List.getElem?_map, List.getElem?_range h, Option.map_some, List.getElem?_replicate, h, if_true] at this
  exact Option.some.inj this
theorem int_zero : floatOfInt .f64 ((0 : Nat) : Int) = 0 := by kernel_rfl

/-! ### The reference's loop -/
/-- Where the point is (-1: nowhere), what the digits spell, how many they are, how many stand behind the point. -/
structure FScan where
  pt : Int
  n : Nat
  many : Nat
  e : Nat
def fgo : List UInt8 → Nat → FScan → Option FScan
  | [], _, F => some F
  | c :: r, k, F =>
    if c.toNat = 46 ∧ F.pt < 0 then fgo r (k + 1) ⟨k, F.n, F.many, F.e⟩
    else if isD c then
      if 15 < F.many + 1 then none
      else fgo r (k + 1) ⟨F.pt, 10 * F.n + (c.toNat - 48), F.many + 1, if F.pt < 0 then F.e else F.e + 1⟩
    else none
def F0 : FScan := ⟨-1, 0, 0, 0⟩
theorem fgo_front (a rest : List UInt8) : ∀ (k : Nat) (F : FScan), F.pt < 0 → F.many ≤ 15 → (∀ c ∈ a, c.toNat ≠ 46) →
    fgo (a ++ rest) k F = if (∀ c ∈ a, isD c) ∧ F.many + a.length ≤ 15 then fgo rest (k + a.length) ⟨F.pt, spell a F.n, F.many + a.length, F.e⟩ else none := by
  induction a with
  | nil => intro k F h1 h2 _; rw [if_pos ⟨by simp, by simpa using h2⟩]; rfl
  | cons c r ih =>
    intro k F h1 h2 h3
    have hc := h3 c (by simp)
    rw [List.cons_append, fgo, if_neg (fun h => hc h.1)]
    by_cases hd : isD c
    · rw [if_pos hd]
      by_cases hm : 15 < F.many + 1
      · rw [if_pos hm, if_neg (fun h => by have := h.2; simp only [List.length_cons] at this; omega)]
      · rw [if_neg hm, ih (k + 1) ⟨F.pt, 10 * F.n + (c.toNat - 48), F.many + 1, if F.pt < 0 then F.e else F.e + 1⟩ h1 (by show F.many + 1 ≤ 15; omega) (fun x hx => h3 x (by simp [hx]))]
        simp only [if_pos h1, spell_cons, List.length_cons]
        have e1 : F.many + 1 + r.length = F.many + (r.length + 1) := by omega
        have e2 : k + 1 + r.length = k + (r.length + 1) := by omega
        rw [e1, e2]
        by_cases hr : (∀ x ∈ r, isD x) ∧ F.many + (r.length + 1) ≤ 15
        · rw [if_pos hr, if_pos ⟨fun x hx => by rcases List.mem_cons.1 hx with rfl | hx; exact hd; exact hr.1 x hx, hr.2⟩]
        · rw [if_neg hr, if_neg (fun h => hr ⟨fun x hx => h.1 x (by simp [hx]), h.2⟩)]
    · rw [if_neg hd, if_neg (fun h => hd (h.1 c (by simp)))]
theorem fgo_back (b : List UInt8) : ∀ (k : Nat) (F : FScan), ¬ F.pt < 0 → F.many ≤ 15 →
    fgo b k F = if (∀ c ∈ b, isD c) ∧ F.many + b.length ≤ 15 then some ⟨F.pt, spell b F.n, F.many + b.length, F.e + b.length⟩ else none := by
  induction b with
  | nil => intro k F h1 h2; rw [if_pos ⟨by simp, by simpa using h2⟩]; rfl
  | cons c r ih =>
    intro k F h1 h2
    rw [fgo, if_neg (fun h => h1 h.2)]
    by_cases hd : isD c
    · rw [if_pos hd]
      by_cases hm : 15 < F.many + 1
      · rw [if_pos hm, if_neg (fun h => by have := h.2; simp only [List.length_cons] at this; omega)]
      · rw [if_neg hm, ih (k + 1) ⟨F.pt, 10 * F.n + (c.toNat - 48), F.many + 1, if F.pt < 0 then F.e else F.e + 1⟩ h1 (by show F.many + 1 ≤ 15; omega)]
        simp only [if_neg h1, spell_cons, List.length_cons]
        have e1 : F.many + 1 + r.length = F.many + (r.length + 1) := by omega
        have e2 : F.e + 1 + r.length = F.e + (r.length + 1) := by omega
        rw [e1, e2]
        by_cases hr : (∀ x ∈ r, isD x) ∧ F.many + (r.length + 1) ≤ 15
        · rw [if_pos hr, if_pos ⟨fun x hx => by rcases List.mem_cons.1 hx with rfl | hx; exact hd; exact hr.1 x hx, hr.2⟩]
        · rw [if_neg hr, if_neg (fun h => hr ⟨fun x hx => h.1 x (by simp [hx]), h.2⟩)]
    · rw [if_neg hd, if_neg (fun h => hd (h.1 c (by simp)))]
/-- What a text's two parts must be. -/
def Flo (a b : List UInt8) : Prop := (∀ c ∈ a, isD c) ∧ (∀ c ∈ b, isD c) ∧ a.length + b.length ≤ 15 ∧ a ≠ [] ∧ (a.length = 1 ∨ (a.headD 0).toNat ≠ 48) ∧ b ≠ []
/-- The reference's last test. -/
def Fit (len : Nat) (h : Nat) (F : FScan) : Prop := ¬ F.pt < 1 ∧ F.pt ≠ (len : Int) - 1 ∧ ¬ (1 < F.pt ∧ h = 48)
theorem fgo_none (l : List UInt8) (h : ∀ c ∈ l, c.toNat ≠ 46) : fgo l 0 F0 = none ∨ ∃ F, fgo l 0 F0 = some F ∧ F.pt = -1 := by
  have := fgo_front l [] 0 F0 (by decide) (by decide) h
  rw [List.append_nil] at this
  rw [this]
  split
  · exact .inr ⟨_, rfl, rfl⟩
  · exact .inl rfl
theorem fgo_split (a b : List UInt8) (p : UInt8) (hp : p.toNat = 46) (h : ∀ c ∈ a, c.toNat ≠ 46) :
    fgo (a ++ p :: b) 0 F0 = if (∀ c ∈ a, isD c) ∧ (∀ c ∈ b, isD c) ∧ a.length + b.length ≤ 15 then some ⟨a.length, spell b (spell a 0), a.length + b.length, b.length⟩ else none := by
  rw [fgo_front a (p :: b) 0 F0 (by decide) (by decide) h]
  simp only [F0, Nat.zero_add]
  by_cases ha : (∀ c ∈ a, isD c) ∧ a.length ≤ 15
  · rw [if_pos ha, fgo, if_pos ⟨hp, by show (-1 : Int) < 0; omega⟩, fgo_back b _ _ (by show ¬ ((a.length : Int)) < 0; omega) ha.2]
    simp only [Nat.zero_add]
    by_cases hb : (∀ c ∈ b, isD c) ∧ a.length + b.length ≤ 15
    · rw [if_pos hb, if_pos ⟨ha.1, hb⟩]
    · rw [if_neg hb, if_neg (fun h => hb h.2)]
  · rw [if_neg ha, if_neg (fun h => ha ⟨h.1, by omega⟩)]
theorem flo_fit (a b : List UInt8) (p : UInt8) : Fit (a ++ p :: b).length ((a ++ p :: b).headD 0).toNat ⟨a.length, spell b (spell a 0), a.length + b.length, b.length⟩ ↔ a ≠ [] ∧ (a.length = 1 ∨ (a.headD 0).toNat ≠ 48) ∧ b ≠ [] := by
  unfold Fit
  simp only [List.length_append, List.length_cons]
  constructor
  · rintro ⟨h1, h2, h3⟩
    have ha : a ≠ [] := fun e => by subst e; simp at h1
    refine ⟨ha, ?_, fun e => by subst e; simp at h2⟩
    match a, ha with
    | c :: r, _ =>
      simp only [List.cons_append, List.headD_cons, List.length_cons] at *
      by_cases hr : r.length + 1 = 1
      · exact .inl hr
      · exact .inr (fun e => h3 ⟨by omega, e⟩)
  · rintro ⟨ha, h1, hb⟩
    match a, ha with
    | c :: r, _ =>
      have hbl : 0 < b.length := List.length_pos_iff.2 hb
      simp only [List.cons_append, List.headD_cons, List.length_cons] at *
      refine ⟨by omega, by omega, fun ⟨h3, h4⟩ => by rcases h1 with h1 | h1 <;> omega⟩
end Go.Proofs.YtehakhplglhkdaaGreatDoor
