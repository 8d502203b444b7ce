/- strings.Cut at a point. Condition: the text is not great. -/
import Derived.Test.YtehakhplglhkdaaGreatDoorReadE
import Derived.Test.YtehakhplglhkdaaGreatDoorReadB
namespace Go.Proofs.YtehakhplglhkdaaGreatDoor
set_option linter.unusedVariables false
open Go.RowKit

theorem index_none (l : List UInt8) (h : ∀ c ∈ l, c.toNat ≠ 46) : Lib.indexByte l 46 = -1 := by
  induction l with
  | nil => rfl
  | cons c r ih =>
    have hc : (c == (46 : UInt8)) = false := by
      have := h c (by simp)
      simp only [beq_eq_false_iff_ne, ne_eq]
      intro e
      subst e
      exact this rfl
    rw [Lib.indexByte, hc, ih (fun x hx => h x (by simp [hx]))]
    rfl
theorem index_split (a b : List UInt8) (p : UInt8) (hp : p.toNat = 46) (h : ∀ c ∈ a, c.toNat ≠ 46) : Lib.indexByte (a ++ p :: b) 46 = (a.length : Int) := by
  induction a with
  | nil =>
    have : p = 46 := by
      apply UInt8.toNat_inj.1
      rw [hp]; rfl
    subst this
    rfl
  | cons c r ih =>
    have hc : (c == (46 : UInt8)) = false := by
      have := h c (by simp)
      simp only [beq_eq_false_iff_ne, ne_eq]
      intro e
      subst e
      exact this rfl
    have hi := ih (fun x hx => h x (by simp [hx]))
    rw [List.cons_append, Lib.indexByte, hc, hi]
    have : ((r.length : Int) == -1) = false := beq_eq_false_iff_ne.2 (by omega)
    rw [this]
    simp
set_option maxRecDepth 200000 in
set_option maxHeartbeats 2000000 in
theorem cut_none (s : ByteArray) (w : World) (hsz : s.size ≤ 9223372036854775806) (h : Lib.indexByte s.data.toList 46 = -1) : Calls Tryz.prog 56 #[.string s, .string ⟨#[46]⟩] w fun e w' => e = .returned (.tuple #[.string s, .string ⟨#[]⟩, .bool false]) ∧ ∃ n, w.drewN n = w' := by
  have hi := Tryz.stringslite_Index_one s 46
  simp only [h] at hi
  go_enter Tryz.func56, Tryz.ntmps56
  go_wp2_with (first
    | (go_at_call 93; refine (hi _).mono ?_; rintro en w2 ⟨rfl, rfl⟩)
    | go_in)
  go_returns
  exact ⟨rfl, 0, rfl⟩
set_option maxRecDepth 200000 in
set_option maxHeartbeats 2000000 in
theorem cut_some (s : ByteArray) (i : Nat) (w : World) (hsz : s.size ≤ 9223372036854775806) (hlt : i < s.size) (h : Lib.indexByte s.data.toList 46 = (i : Int)) : Calls Tryz.prog 56 #[.string s, .string ⟨#[46]⟩] w fun e w' => e = .returned (.tuple #[.string (s.extract 0 i), .string (s.extract (i + 1) s.size), .bool true]) ∧ ∃ n, w.drewN n = w' := by
  have hi := Tryz.stringslite_Index_one s 46
  simp only [h] at hi
  have b0 : decide ((0 : Int) ≤ (i : Int)) = true := decide_eq_true (by omega)
  have b1 : (0 : Int) ≤ (i : Int) ∧ (i : Int) ≤ (s.size : Int) := by omega
  have b2 : (0 : Int) ≤ (i : Int) + 1 ∧ (i : Int) + 1 ≤ (s.size : Int) := by omega
  have w1 : wrap64 ((i : Int) + 1) = (i : Int) + 1 := wrap_id (by unfold I64; omega)
  go_enter Tryz.func56, Tryz.ntmps56
  go_wp2_with (first
    | (go_at_call 93; refine (hi _).mono ?_; rintro en w2 ⟨rfl, rfl⟩)
    | go_in)
  go_quiet (fail)
  go_wp2
  go_returns
  exact ⟨rfl, nq, rfl⟩
end Go.Proofs.YtehakhplglhkdaaGreatDoor
