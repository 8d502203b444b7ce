/- Ints of 64 bits: what NumberRing leans on. -/
import Derived.Test.YtehakhplglhkdaaGreatDoorBase
namespace Go.Proofs.YtehakhplglhkdaaGreatDoor
set_option linter.unusedVariables false
open Go.RowKit

/-- An int of Go's. -/
def I64 (a : Int) : Prop := -9223372036854775808 ≤ a ∧ a ≤ 9223372036854775807
theorem wrap_i64 (a : Int) : I64 (wrap64 a) := by unfold I64 wrap64; omega
theorem wrap_id {a : Int} (h : I64 a) : wrap64 a = a := by unfold I64 at h; unfold wrap64; omega
theorem less_eq {a : Int} (b : Int) (h : I64 a) : wrap64 (wrap64 (a + b) - b) = a := by unfold I64 at h; unfold wrap64; omega
theorem again_eq {a : Int} (b : Int) (h : I64 a) : wrap64 (wrap64 (a + b) + wrap64 (-b)) = a := by unfold I64 at h; unfold wrap64; omega
theorem all_eq (a : Int) : wrap64 (a + (-a - 1)) = -1 := by unfold wrap64; omega
theorem restm_eq {a : Int} (h : I64 a) : wrap64 (a - wrap64 (-wrap64 (-a))) = 0 := by unfold I64 at h; unfold wrap64; omega
theorem wholem_eq {a : Int} (h : I64 a) : wrap64 (wrap64 (wrap64 (-a) * (-1)) + 0) = a := by unfold I64 at h; unfold wrap64; omega
theorem whole_eq {a : Int} (m : Int) (h : I64 a) : wrap64 (wrap64 m + wrap64 (a - wrap64 m)) = a := by unfold I64 at h; unfold wrap64; omega
theorem dbl_eq (x : Int) : wrap64 (wrap64 x * 2) = wrap64 (x * 2) := by unfold wrap64; omega

theorem rest_eq {a b : Int} (h : I64 a) (hb : b ≠ 0) (hb1 : b ≠ -1) : wrap64 (a - wrap64 (wrap64 (a.tdiv b) * b)) = a.tmod b := by
  have h1 := Int.natAbs_tmod a b
  have h2 : (a.tdiv b).natAbs = a.natAbs / b.natAbs := Int.natAbs_tdiv a b
  have h3 : a.natAbs % b.natAbs ≤ a.natAbs := Nat.mod_le _ _
  rw [← h1] at h3
  have hm := Int.mul_tdiv_add_tmod a b
  have hI := h
  unfold I64 at hI
  have hq : I64 (a.tdiv b) := by
    by_cases h4 : b = 1
    · subst h4; rw [Int.tdiv_one]; exact h
    · have h5 : 2 ≤ b.natAbs := by omega
      have h6 : a.natAbs / b.natAbs ≤ a.natAbs / 2 := Nat.div_le_div_left h5 (by omega)
      rw [← h2] at h6
      unfold I64
      omega
  rw [wrap_id hq, Int.mul_comm]
  have hs1 : 0 ≤ a → 0 ≤ a.tmod b := fun h => Int.tmod_nonneg b h
  have hs2 : a < 0 → a.tmod b ≤ 0 := fun h => by
    have := Int.tmod_nonneg b (show 0 ≤ -a by omega)
    rw [Int.neg_tmod] at this
    omega
  have hp : I64 (b * a.tdiv b) := by unfold I64; omega
  rw [wrap_id hp]
  have hr : I64 (a - b * a.tdiv b) := by unfold I64; omega
  rw [wrap_id hr]
  omega
theorem rest_sign (a b : Int) (h0 : a.tmod b ≠ 0) : decide (a.tmod b < 0) = decide (a < 0) := by
  by_cases ha : a < 0
  · have := Int.tmod_nonneg b (show 0 ≤ -a by omega)
    rw [Int.neg_tmod] at this
    simp [ha]; omega
  · have := Int.tmod_nonneg b (show 0 ≤ a by omega)
    simp [ha]; omega

theorem xor_left {a : Int} (h : I64 a) : bits BinOp.xor .i64 (-1) a = -a - 1 := by
  show IntKind.i64.wrap (((BitVec.ofInt 64 (-1) ^^^ BitVec.ofInt 64 a).toNat : Nat) : Int) = _
  rw [show BitVec.ofInt 64 (-1) = BitVec.allOnes 64 from rfl, BitVec.allOnes_xor, BitVec.toNat_not, BitVec.toNat_ofInt, IntKind.wrap_i64]
  unfold I64 at h
  omega
theorem xor_right {a : Int} (h : I64 a) : bits BinOp.xor .i64 a (-1) = -a - 1 := by
  show IntKind.i64.wrap (((BitVec.ofInt 64 a ^^^ BitVec.ofInt 64 (-1)).toNat : Nat) : Int) = _
  rw [show BitVec.ofInt 64 (-1) = BitVec.allOnes 64 from rfl, BitVec.xor_allOnes, BitVec.toNat_not, BitVec.toNat_ofInt, IntKind.wrap_i64]
  unfold I64 at h
  omega
theorem shl_step (a : Int) (i : Nat) : wrap64 (wrap64 (a * 2 ^ i) * 2 ^ (1 : Int).toNat) = wrap64 (a * 2 ^ (i + 1)) := by
  rw [show (2 : Int) ^ (1 : Int).toNat = 2 from rfl, dbl_eq, Int.pow_succ, Int.mul_assoc]
theorem shr_step (a : Int) (i : Nat) : a / 2 ^ i / 2 ^ (1 : Int).toNat = a / 2 ^ (i + 1) := by
  rw [show (2 : Int) ^ (1 : Int).toNat = 2 from rfl, Int.pow_succ, Int.ediv_ediv_of_nonneg (by exact Int.le_of_lt (Int.pow_pos (by decide)))]
theorem wrap_mul (x k : Int) : wrap64 (x * 18446744073709551616 * k) = 0 := by
  unfold wrap64
  rw [Int.mul_assoc, Int.mul_comm 18446744073709551616 k, ← Int.mul_assoc]
  omega
theorem shl_end (a : Int) (n : Nat) : (if 64 < (n : Int) then wrap64 (a * 18446744073709551616) else wrap64 (a * 2 ^ (n : Int).toNat)) = wrap64 (a * 2 ^ n) := by
  split
  · obtain ⟨k, rfl⟩ : ∃ k, n = 64 + k := ⟨n - 64, by omega⟩
    have h1 := wrap_mul a 1
    rw [Int.mul_one] at h1
    rw [h1, Int.pow_add, show (2 : Int) ^ 64 = 18446744073709551616 from rfl, ← Int.mul_assoc, wrap_mul]
  · rfl
theorem shr_end {a : Int} (h : I64 a) (n : Nat) : (if 63 < (n : Int) then a / 9223372036854775808 else a / 2 ^ (n : Int).toNat) = a / 2 ^ n := by
  split
  · obtain ⟨k, rfl⟩ : ∃ k, n = 63 + k := ⟨n - 63, by omega⟩
    rw [Int.pow_add, show (2 : Int) ^ 63 = 9223372036854775808 from rfl, ← Int.ediv_ediv_of_nonneg (by decide)]
    have hk : (1 : Int) ≤ 2 ^ k := Int.pow_pos (by decide)
    unfold I64 at h
    have h0 : a / 9223372036854775808 = 0 ∨ a / 9223372036854775808 = -1 := by omega
    rcases h0 with h0 | h0 <;> rw [h0]
    · simp
    · exact ((Int.ediv_emod_unique (show (0 : Int) < 2 ^ k by omega)).2 ⟨show ((2 : Int) ^ k - 1) + 2 ^ k * (-1) = -1 by omega, by omega, by omega⟩).1.symm
  · rfl
end Go.Proofs.YtehakhplglhkdaaGreatDoor
