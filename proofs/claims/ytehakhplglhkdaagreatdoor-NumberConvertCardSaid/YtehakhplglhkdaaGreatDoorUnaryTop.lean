/- NumberUnary of any arguments. Conditions: the arguments fit their kinds; the texts are short; what strconv reads of the package's variables. -/
import Derived.Test.YtehakhplglhkdaaGreatDoorUnaryLaw
import Derived.Test.YtehakhplglhkdaaGreatDoorRingPlain
namespace Go.Proofs.YtehakhplglhkdaaGreatDoor
set_option linter.unusedVariables false
open Go.RowKit

theorem neg_two {n : Int} (h : I64 n) : wrap64 (bits BinOp.xor .i64 (-1) n + 1) = wrap64 (-n) := by
  rw [xor_left h]; congr 1; omega
theorem not_two {n : Int} (h : I64 n) : wrap64 (-1 - n) = bits BinOp.xor .i64 (-1) n := by
  rw [xor_left h, wrap_id (by unfold I64 at *; omega)]; omega
theorem ne_list {a b : ByteArray} (h : a ≠ b) : (a.toList == b.data.toList) = false := by
  rw [ByteArray.toList_eq]
  simp only [beq_eq_false_iff_ne, ne_eq]
  intro e
  exact h (ByteArray.ext (Array.toList_inj.1 e))
theorem ne_int {a b : Int} (h : a ≠ b) : (a == b) = false := by simp [h]

theorem numberUnary_any (op : ByteArray) (k : Int) (t s : ByteArray) (n f ro rf rl rc : Int) (pa ia : Option Addr) (pn pc iN ic : Nat) (w : World) (hn : I64 n) (hs : op.size + t.size ≤ 281474976710500) (hG : Glob w) :
    Calls Tryz.prog 3 #[.string op, (Dat.mk k t n f s ro rf rl rc pa pn pc ia iN ic).val] w fun e w' => e = .returned (.bool true) ∧ Below w.heap.size w w' := by
  by_cases h1 : op = ⟨#[45]⟩
  · subst h1
    have hs' : (⟨#[45]⟩ : ByteArray).size + t.size ≤ 281474976710600 := by omega
    by_cases k2 : k = 2
    · subst k2
      exact unaryLaw_ok ⟨#[45]⟩ 2 t s n f ro rf rl rc pa ia pn pc iN ic 2 (wrap64 (-n)) 0 t ⟨#[]⟩ w hG (fun w => una_neg t s n f ro rf rl rc pa ia pn pc iN ic w) (fun w => by have h := unr_neg t s n f ro rf rl rc pa ia pn pc iN ic w; rw [neg_two hn] at h; exact h)
    · by_cases k3 : k = 3
      · subst k3
        exact unaryLaw_ok ⟨#[45]⟩ 3 t s n f ro rf rl rc pa ia pn pc iN ic 3 0 _ t ⟨#[]⟩ w hG (fun w => una_fneg t s n f ro rf rl rc pa ia pn pc iN ic w) (fun w => unr_fneg t s n f ro rf rl rc pa ia pn pc iN ic w)
      · exact unaryLaw_fault ⟨#[45]⟩ k t s n f ro rf rl rc pa ia pn pc iN ic 0 0 0 ⟨#[]⟩ ⟨#[]⟩ _ w hG (fun w => una_f45 t s n f ro rf rl rc pa ia pn pc iN ic k (ne_int k2) (ne_int k3) w hs') (fun w => unr_f45 t s n f ro rf rl rc pa ia pn pc iN ic k (ne_int k2) (ne_int k3) w hs')
  · by_cases h2 : op = ⟨#[94]⟩
    · subst h2
      have hs' : (⟨#[94]⟩ : ByteArray).size + t.size ≤ 281474976710600 := by omega
      by_cases k2 : k = 2
      · subst k2
        exact unaryLaw_ok ⟨#[94]⟩ 2 t s n f ro rf rl rc pa ia pn pc iN ic 2 (bits BinOp.xor .i64 (-1) n) 0 t ⟨#[]⟩ w hG (fun w => una_not t s n f ro rf rl rc pa ia pn pc iN ic w) (fun w => by have h := unr_not t s n f ro rf rl rc pa ia pn pc iN ic w; rw [not_two hn] at h; exact h)
      · exact unaryLaw_fault ⟨#[94]⟩ k t s n f ro rf rl rc pa ia pn pc iN ic 0 0 0 ⟨#[]⟩ ⟨#[]⟩ _ w hG (fun w => una_f94 t s n f ro rf rl rc pa ia pn pc iN ic k (ne_int k2) w hs') (fun w => unr_f94 t s n f ro rf rl rc pa ia pn pc iN ic k (ne_int k2) w hs')
    · by_cases h3 : op = ⟨#[33]⟩
      · subst h3
        have hs' : (⟨#[33]⟩ : ByteArray).size + t.size ≤ 281474976710600 := by omega
        by_cases k1 : k = 1
        · subst k1
          by_cases z : n = 0
          · exact unaryLaw_ok ⟨#[33]⟩ 1 t s n f ro rf rl rc pa ia pn pc iN ic 1 1 0 t ⟨#[]⟩ w hG (fun w => una_bang1 t s n f ro rf rl rc pa ia pn pc iN ic (by simp [z]) w) (fun w => unr_bang1 t s n f ro rf rl rc pa ia pn pc iN ic (by simp [z]) w)
          · exact unaryLaw_ok ⟨#[33]⟩ 1 t s n f ro rf rl rc pa ia pn pc iN ic 1 0 0 t ⟨#[]⟩ w hG (fun w => una_bang0 t s n f ro rf rl rc pa ia pn pc iN ic (ne_int z) w) (fun w => unr_bang0 t s n f ro rf rl rc pa ia pn pc iN ic (ne_int z) w)
        · exact unaryLaw_fault ⟨#[33]⟩ k t s n f ro rf rl rc pa ia pn pc iN ic 0 0 0 ⟨#[]⟩ ⟨#[]⟩ _ w hG (fun w => una_f33 t s n f ro rf rl rc pa ia pn pc iN ic k (ne_int k1) w hs') (fun w => unr_f33 t s n f ro rf rl rc pa ia pn pc iN ic k (ne_int k1) w hs')
      · exact unaryLaw_fault op k t s n f ro rf rl rc pa ia pn pc iN ic 0 0 0 ⟨#[]⟩ ⟨#[]⟩ _ w hG (fun w => una_f0 op t s n f ro rf rl rc pa ia pn pc iN ic k (ne_list h1) (ne_list h2) (ne_list h3) w (by omega)) (fun w => unr_f0 op t s n f ro rf rl rc pa ia pn pc iN ic k (ne_list h1) (ne_list h2) (ne_list h3) w (by omega))
end Go.Proofs.YtehakhplglhkdaaGreatDoor
