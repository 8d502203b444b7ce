/- Texts of this proof, put together: OpsB, OpsC. -/
import Derived.Test.YtmecmlpoallpcaaGreatDoorM26
import Derived.Test.YtmecmlpoallpcaaGreatDoorM25
import Derived.Test.YtmecmlpoallpcaaGreatDoorM27
import Derived.RegionTactic
import Derived.BigRegion
import Derived.Lib.ItoaLen
set_option linter.unusedSimpArgs false
/- number.Unary and number.Binary of peep's constants. (Printed by gen_opsb.py.) -/
namespace Go.Proofs.YtmecmlpoallpcaaGreatDoor
set_option linter.unusedVariables false
open Go.RowKit Go.Proofs.PeepPlain

theorem bytes_are {s : ByteArray} {l : List UInt8} (h : s.toList = l) : s = ⟨l.toArray⟩ := by
  rw [ByteArray.toList_eq] at h
  subst h
  rfl
theorem bytes_no {s : ByteArray} {l : List UInt8} (h : s.toList ≠ l) : (s.toList == l) = false := beq_eq_false_iff_ne.2 h
def datOf : Cst → Dat
  | .int n => intD n
  | .flag n => flagD n
/-- What an operation on constants answers. -/
def OpPost (r : Option Cst) (w : World) (e : Ending) (w' : World) : Prop :=
  (match r with
    | some d => e = .returned (.tuple #[(datOf d).val, .nilIface])
    | none => ∃ g, e = .returned (.tuple #[zeroD.val, .iface 209 (.pointer (some ⟨g, 0, none⟩))])) ∧ Below w.heap.size w w'
theorem op_some {r : Option Cst} {d : Cst} (h : r = some d) {w w' : World} {e : Ending} (he : e = .returned (.tuple #[(datOf d).val, .nilIface]) ∧ Below w.heap.size w w') : OpPost r w e w' := by
  subst h
  exact he
theorem op_none {r : Option Cst} (h : r = none) {w w' : World} {e : Ending} {x y : ByteArray} (he : ∃ v, e = .returned (.tuple #[zeroD.val, v]) ∧ IsFault w w' v x y ∧ Below w.heap.size w w') : OpPost r w e w' := by
  subst h
  obtain ⟨v, h1, ⟨g, rfl, _⟩, h3⟩ := he
  exact ⟨⟨g, h1⟩, h3⟩
def numUn (op : ByteArray) : Cst → Option Cst
  | .int n => if op.toList = [45] then some (.int (wrap64 (-n))) else if op.toList = [94] then some (.int (bits BinOp.xor .i64 (-1) n)) else none
  | .flag n => if op.toList = [33] then some (.flag (if n = 0 then 1 else 0)) else none
theorem num_unary (op : ByteArray) (hs : op.size ≤ 2000000) (c : Cst) (w : World) : Calls Tryz.prog 119 #[.string op, (datOf c).val] w (OpPost (numUn op c) w) := by
  cases c with
  | int n =>
    by_cases h1 : op.toList = [45]
    · obtain rfl := bytes_are h1
      exact (una_neg ⟨#[105, 110, 116]⟩ ⟨#[]⟩ n 0 0 0 0 0 none none 0 0 0 0 w).mono fun e w' h => op_some (d := .int (wrap64 (-n))) (by unfold numUn; dsimp only; rw [if_pos h1]) h
    · by_cases h2 : op.toList = [94]
      · obtain rfl := bytes_are h2
        exact (una_not ⟨#[105, 110, 116]⟩ ⟨#[]⟩ n 0 0 0 0 0 none none 0 0 0 0 w).mono fun e w' h => op_some (d := .int (bits BinOp.xor .i64 (-1) n)) (by unfold numUn; dsimp only; rw [if_neg h1, if_pos h2]) h
      · by_cases h3 : op.toList = [33]
        · obtain rfl := bytes_are h3
          exact (una_f33 ⟨#[105, 110, 116]⟩ ⟨#[]⟩ n 0 0 0 0 0 none none 0 0 0 0 2 rfl w (by decide)).mono fun e w' h => op_none (by unfold numUn; dsimp only; rw [if_neg h1, if_neg h2]) h
        · exact (una_f0 op ⟨#[105, 110, 116]⟩ ⟨#[]⟩ n 0 0 0 0 0 none none 0 0 0 0 2 (bytes_no h1) (bytes_no h2) (bytes_no h3) w (by show op.size + 3 ≤ _; omega)).mono fun e w' h => op_none (by unfold numUn; dsimp only; rw [if_neg h1, if_neg h2]) h
  | flag n =>
    by_cases h3 : op.toList = [33]
    · obtain rfl := bytes_are h3
      by_cases h0 : n = 0
      · exact (una_bang1 ⟨#[98, 111, 111, 108]⟩ ⟨#[]⟩ n 0 0 0 0 0 none none 0 0 0 0 (beq_iff_eq.2 h0) w).mono fun e w' h => op_some (d := .flag 1) (by unfold numUn; dsimp only; rw [if_pos h3, if_pos h0]) h
      · exact (una_bang0 ⟨#[98, 111, 111, 108]⟩ ⟨#[]⟩ n 0 0 0 0 0 none none 0 0 0 0 (beq_eq_false_iff_ne.2 h0) w).mono fun e w' h => op_some (d := .flag 0) (by unfold numUn; dsimp only; rw [if_pos h3, if_neg h0]) h
    · by_cases h1 : op.toList = [45]
      · obtain rfl := bytes_are h1
        exact (una_f45 ⟨#[98, 111, 111, 108]⟩ ⟨#[]⟩ n 0 0 0 0 0 none none 0 0 0 0 1 rfl rfl w (by decide)).mono fun e w' h => op_none (by unfold numUn; dsimp only; rw [if_neg h3]) h
      · by_cases h2 : op.toList = [94]
        · obtain rfl := bytes_are h2
          exact (una_f94 ⟨#[98, 111, 111, 108]⟩ ⟨#[]⟩ n 0 0 0 0 0 none none 0 0 0 0 1 rfl w (by decide)).mono fun e w' h => op_none (by unfold numUn; dsimp only; rw [if_neg h3]) h
        · exact (una_f0 op ⟨#[98, 111, 111, 108]⟩ ⟨#[]⟩ n 0 0 0 0 0 none none 0 0 0 0 1 (bytes_no h1) (bytes_no h2) (bytes_no h3) w (by show op.size + 4 ≤ _; omega)).mono fun e w' h => op_none (by unfold numUn; dsimp only; rw [if_neg h3]) h

theorem num_ints (op : ByteArray) (hs : op.size ≤ 2000000) (n m : Int) (h1 : -9223372036854775808 ≤ m) (h2 : m ≤ 9223372036854775807) (w : World) (G : GlobP w) : Calls Tryz.prog 121 #[.string op, (intD n).val, (intD m).val] w (OpPost (intsOf op n m) w) := by
  have HT := fun W (hW : Below w.heap.size w W) => (G.below hW).pow
  by_cases h_43 : op.toList = [43]
  · obtain rfl := bytes_are h_43
    exact (bin17_ok _ (intD n) (intD m) (datOf (.int (wrap64 (n + m)))) rfl rfl w (fun w => b43_ok _ ⟨#[105, 110, 116]⟩ ⟨#[]⟩ n 0 0 0 0 0 none none 0 0 0 0 ⟨#[]⟩ m 0 0 0 0 0 none none 0 0 0 0 (datOf (.int (wrap64 (n + m)))) true w (fun w => i_add ⟨#[105, 110, 116]⟩ ⟨#[]⟩ n 0 0 0 0 0 none none 0 0 0 0 ⟨#[]⟩ m 0 0 0 0 0 none none 0 0 0 0 w))).mono fun e w' h => op_some (d := .int (wrap64 (n + m))) (by unfold intsOf; rw [if_pos h_43]) h
  by_cases h_45 : op.toList = [45]
  · obtain rfl := bytes_are h_45
    exact (bin17_ok _ (intD n) (intD m) (datOf (.int (wrap64 (n - m)))) rfl rfl w (fun w => b43_ok _ ⟨#[105, 110, 116]⟩ ⟨#[]⟩ n 0 0 0 0 0 none none 0 0 0 0 ⟨#[]⟩ m 0 0 0 0 0 none none 0 0 0 0 (datOf (.int (wrap64 (n - m)))) true w (fun w => i_sub ⟨#[105, 110, 116]⟩ ⟨#[]⟩ n 0 0 0 0 0 none none 0 0 0 0 ⟨#[]⟩ m 0 0 0 0 0 none none 0 0 0 0 w))).mono fun e w' h => op_some (d := .int (wrap64 (n - m))) (by unfold intsOf; rw [if_neg h_43, if_pos h_45]) h
  by_cases h_42 : op.toList = [42]
  · obtain rfl := bytes_are h_42
    exact (bin17_ok _ (intD n) (intD m) (datOf (.int (wrap64 (n * m)))) rfl rfl w (fun w => b43_ok _ ⟨#[105, 110, 116]⟩ ⟨#[]⟩ n 0 0 0 0 0 none none 0 0 0 0 ⟨#[]⟩ m 0 0 0 0 0 none none 0 0 0 0 (datOf (.int (wrap64 (n * m)))) true w (fun w => i_mul ⟨#[105, 110, 116]⟩ ⟨#[]⟩ n 0 0 0 0 0 none none 0 0 0 0 ⟨#[]⟩ m 0 0 0 0 0 none none 0 0 0 0 w))).mono fun e w' h => op_some (d := .int (wrap64 (n * m))) (by unfold intsOf; rw [if_neg h_43, if_neg h_45, if_pos h_42]) h
  by_cases h_47 : op.toList = [47]
  · obtain rfl := bytes_are h_47
    by_cases h0 : m = 0
    · subst h0
      exact (bin17_err _ sDivide ⟨#[]⟩ 2 ⟨#[105, 110, 116]⟩ ⟨#[]⟩ n 0 0 0 0 0 none none 0 0 0 0 ⟨#[]⟩ 0 0 0 0 0 0 none none 0 0 0 0 w (fun W hW => b43_err _ sDivide ⟨#[]⟩ ⟨#[105, 110, 116]⟩ ⟨#[]⟩ n 0 0 0 0 0 none none 0 0 0 0 ⟨#[]⟩ 0 0 0 0 0 0 none none 0 0 0 0 W (fun W2 hW2 => i_div0 ⟨#[105, 110, 116]⟩ ⟨#[]⟩ n 0 0 0 0 0 none none 0 0 0 0 ⟨#[]⟩ 0 0 0 0 0 0 none none 0 0 0 0 W2))).mono fun e w' h => op_none (by unfold intsOf; rw [if_neg h_43, if_neg h_45, if_neg h_42, if_pos h_47, if_pos rfl]) h
    · by_cases hm : m = -1
      · subst hm
        exact (bin17_ok _ (intD n) (intD (-1)) (datOf (.int (wrap64 (-n)))) rfl rfl w (fun w => b43_ok _ ⟨#[105, 110, 116]⟩ ⟨#[]⟩ n 0 0 0 0 0 none none 0 0 0 0 ⟨#[]⟩ (-1) 0 0 0 0 0 none none 0 0 0 0 (datOf (.int (wrap64 (-n)))) true w (fun w => i_divm ⟨#[105, 110, 116]⟩ ⟨#[]⟩ n 0 0 0 0 0 none none 0 0 0 0 ⟨#[]⟩ (-1) 0 0 0 0 0 none none 0 0 0 0 w))).mono fun e w' h => op_some (d := .int (wrap64 (-n))) (by unfold intsOf; rw [if_neg h_43, if_neg h_45, if_neg h_42, if_pos h_47, if_neg h0, if_pos rfl]) h
      · exact (bin17_ok _ (intD n) (intD m) (datOf (.int (wrap64 (n.tdiv m)))) rfl rfl w (fun w => b43_ok _ ⟨#[105, 110, 116]⟩ ⟨#[]⟩ n 0 0 0 0 0 none none 0 0 0 0 ⟨#[]⟩ m 0 0 0 0 0 none none 0 0 0 0 (datOf (.int (wrap64 (n.tdiv m)))) true w (fun w => i_div ⟨#[105, 110, 116]⟩ ⟨#[]⟩ n 0 0 0 0 0 none none 0 0 0 0 ⟨#[]⟩ m 0 0 0 0 0 none none 0 0 0 0 h0 hm w))).mono fun e w' h => op_some (d := .int (wrap64 (n.tdiv m))) (by unfold intsOf; rw [if_neg h_43, if_neg h_45, if_neg h_42, if_pos h_47, if_neg h0, if_neg hm]) h
  by_cases h_37 : op.toList = [37]
  · obtain rfl := bytes_are h_37
    by_cases h0 : m = 0
    · subst h0
      exact (bin17_err _ sDivide ⟨#[]⟩ 2 ⟨#[105, 110, 116]⟩ ⟨#[]⟩ n 0 0 0 0 0 none none 0 0 0 0 ⟨#[]⟩ 0 0 0 0 0 0 none none 0 0 0 0 w (fun W hW => b43_err _ sDivide ⟨#[]⟩ ⟨#[105, 110, 116]⟩ ⟨#[]⟩ n 0 0 0 0 0 none none 0 0 0 0 ⟨#[]⟩ 0 0 0 0 0 0 none none 0 0 0 0 W (fun W2 hW2 => i_rem0 ⟨#[105, 110, 116]⟩ ⟨#[]⟩ n 0 0 0 0 0 none none 0 0 0 0 ⟨#[]⟩ 0 0 0 0 0 0 none none 0 0 0 0 W2))).mono fun e w' h => op_none (by unfold intsOf; rw [if_neg h_43, if_neg h_45, if_neg h_42, if_neg h_47, if_pos h_37, if_pos rfl]) h
    · by_cases hm : m = -1
      · subst hm
        exact (bin17_ok _ (intD n) (intD (-1)) (datOf (.int (wrap64 (n - wrap64 (-wrap64 (-n)))))) rfl rfl w (fun w => b43_ok _ ⟨#[105, 110, 116]⟩ ⟨#[]⟩ n 0 0 0 0 0 none none 0 0 0 0 ⟨#[]⟩ (-1) 0 0 0 0 0 none none 0 0 0 0 (datOf (.int (wrap64 (n - wrap64 (-wrap64 (-n)))))) true w (fun w => i_remm ⟨#[105, 110, 116]⟩ ⟨#[]⟩ n 0 0 0 0 0 none none 0 0 0 0 ⟨#[]⟩ (-1) 0 0 0 0 0 none none 0 0 0 0 w))).mono fun e w' h => op_some (d := .int (wrap64 (n - wrap64 (-wrap64 (-n))))) (by unfold intsOf; rw [if_neg h_43, if_neg h_45, if_neg h_42, if_neg h_47, if_pos h_37, if_neg h0, if_pos rfl]) h
      · exact (bin17_ok _ (intD n) (intD m) (datOf (.int (wrap64 (n - wrap64 (wrap64 (n.tdiv m) * m))))) rfl rfl w (fun w => b43_ok _ ⟨#[105, 110, 116]⟩ ⟨#[]⟩ n 0 0 0 0 0 none none 0 0 0 0 ⟨#[]⟩ m 0 0 0 0 0 none none 0 0 0 0 (datOf (.int (wrap64 (n - wrap64 (wrap64 (n.tdiv m) * m))))) true w (fun w => i_rem ⟨#[105, 110, 116]⟩ ⟨#[]⟩ n 0 0 0 0 0 none none 0 0 0 0 ⟨#[]⟩ m 0 0 0 0 0 none none 0 0 0 0 h0 hm w))).mono fun e w' h => op_some (d := .int (wrap64 (n - wrap64 (wrap64 (n.tdiv m) * m)))) (by unfold intsOf; rw [if_neg h_43, if_neg h_45, if_neg h_42, if_neg h_47, if_pos h_37, if_neg h0, if_neg hm]) h
  by_cases h_38 : op.toList = [38]
  · obtain rfl := bytes_are h_38
    exact (bin17_ok _ (intD n) (intD m) (datOf (.int (bits BinOp.and .i64 n m))) rfl rfl w (fun w => b43_ok _ ⟨#[105, 110, 116]⟩ ⟨#[]⟩ n 0 0 0 0 0 none none 0 0 0 0 ⟨#[]⟩ m 0 0 0 0 0 none none 0 0 0 0 (datOf (.int (bits BinOp.and .i64 n m))) true w (fun w => i_and ⟨#[105, 110, 116]⟩ ⟨#[]⟩ n 0 0 0 0 0 none none 0 0 0 0 ⟨#[]⟩ m 0 0 0 0 0 none none 0 0 0 0 w))).mono fun e w' h => op_some (d := .int (bits BinOp.and .i64 n m)) (by unfold intsOf; rw [if_neg h_43, if_neg h_45, if_neg h_42, if_neg h_47, if_neg h_37, if_pos h_38]) h
  by_cases h_124 : op.toList = [124]
  · obtain rfl := bytes_are h_124
    exact (bin17_ok _ (intD n) (intD m) (datOf (.int (bits BinOp.or .i64 n m))) rfl rfl w (fun w => b43_ok _ ⟨#[105, 110, 116]⟩ ⟨#[]⟩ n 0 0 0 0 0 none none 0 0 0 0 ⟨#[]⟩ m 0 0 0 0 0 none none 0 0 0 0 (datOf (.int (bits BinOp.or .i64 n m))) true w (fun w => i_or ⟨#[105, 110, 116]⟩ ⟨#[]⟩ n 0 0 0 0 0 none none 0 0 0 0 ⟨#[]⟩ m 0 0 0 0 0 none none 0 0 0 0 w))).mono fun e w' h => op_some (d := .int (bits BinOp.or .i64 n m)) (by unfold intsOf; rw [if_neg h_43, if_neg h_45, if_neg h_42, if_neg h_47, if_neg h_37, if_neg h_38, if_pos h_124]) h
  by_cases h_94 : op.toList = [94]
  · obtain rfl := bytes_are h_94
    exact (bin17_ok _ (intD n) (intD m) (datOf (.int (bits BinOp.xor .i64 n m))) rfl rfl w (fun w => b43_ok _ ⟨#[105, 110, 116]⟩ ⟨#[]⟩ n 0 0 0 0 0 none none 0 0 0 0 ⟨#[]⟩ m 0 0 0 0 0 none none 0 0 0 0 (datOf (.int (bits BinOp.xor .i64 n m))) true w (fun w => i_xor ⟨#[105, 110, 116]⟩ ⟨#[]⟩ n 0 0 0 0 0 none none 0 0 0 0 ⟨#[]⟩ m 0 0 0 0 0 none none 0 0 0 0 w))).mono fun e w' h => op_some (d := .int (bits BinOp.xor .i64 n m)) (by unfold intsOf; rw [if_neg h_43, if_neg h_45, if_neg h_42, if_neg h_47, if_neg h_37, if_neg h_38, if_neg h_124, if_pos h_94]) h
  by_cases h_shl : op.toList = [60, 60]
  · obtain rfl := bytes_are h_shl
    by_cases h0 : m < 0
    · exact (bin17_err _ sCount ⟨(Lib.itoa m).toArray⟩ 2 ⟨#[105, 110, 116]⟩ ⟨#[]⟩ n 0 0 0 0 0 none none 0 0 0 0 ⟨#[]⟩ m 0 0 0 0 0 none none 0 0 0 0 w (fun W hW => b43_err _ sCount ⟨(Lib.itoa m).toArray⟩ ⟨#[105, 110, 116]⟩ ⟨#[]⟩ n 0 0 0 0 0 none none 0 0 0 0 ⟨#[]⟩ m 0 0 0 0 0 none none 0 0 0 0 W (fun W2 hW2 => i_shln ⟨#[105, 110, 116]⟩ ⟨#[]⟩ n 0 0 0 0 0 none none 0 0 0 0 ⟨#[]⟩ m 0 0 0 0 0 none none 0 0 0 0 W2 ⟨h1, h2⟩ h0 (HT W2 (hW.trans (below_low hW2 hW.size)))))).mono fun e w' h => op_none (by unfold intsOf; rw [if_neg h_43, if_neg h_45, if_neg h_42, if_neg h_47, if_neg h_37, if_neg h_38, if_neg h_124, if_neg h_94, if_pos h_shl, if_pos h0]) h
    · exact (bin17_ok _ (intD n) (intD m) (datOf (.int (wrap64 (n * 2 ^ (min m 64).toNat)))) rfl rfl w (fun w => b43_ok _ ⟨#[105, 110, 116]⟩ ⟨#[]⟩ n 0 0 0 0 0 none none 0 0 0 0 ⟨#[]⟩ m 0 0 0 0 0 none none 0 0 0 0 (datOf (.int (wrap64 (n * 2 ^ (min m 64).toNat)))) true w (fun w => i_shl ⟨#[105, 110, 116]⟩ ⟨#[]⟩ n 0 0 0 0 0 none none 0 0 0 0 ⟨#[]⟩ m 0 0 0 0 0 none none 0 0 0 0 (by omega) w))).mono fun e w' h => op_some (d := .int (wrap64 (n * 2 ^ (min m 64).toNat))) (by unfold intsOf; rw [if_neg h_43, if_neg h_45, if_neg h_42, if_neg h_47, if_neg h_37, if_neg h_38, if_neg h_124, if_neg h_94, if_pos h_shl, if_neg h0]) h
  by_cases h_shr : op.toList = [62, 62]
  · obtain rfl := bytes_are h_shr
    by_cases h0 : m < 0
    · exact (bin17_err _ sCount ⟨(Lib.itoa m).toArray⟩ 2 ⟨#[105, 110, 116]⟩ ⟨#[]⟩ n 0 0 0 0 0 none none 0 0 0 0 ⟨#[]⟩ m 0 0 0 0 0 none none 0 0 0 0 w (fun W hW => b43_err _ sCount ⟨(Lib.itoa m).toArray⟩ ⟨#[105, 110, 116]⟩ ⟨#[]⟩ n 0 0 0 0 0 none none 0 0 0 0 ⟨#[]⟩ m 0 0 0 0 0 none none 0 0 0 0 W (fun W2 hW2 => i_shrn ⟨#[105, 110, 116]⟩ ⟨#[]⟩ n 0 0 0 0 0 none none 0 0 0 0 ⟨#[]⟩ m 0 0 0 0 0 none none 0 0 0 0 W2 ⟨h1, h2⟩ h0 (HT W2 (hW.trans (below_low hW2 hW.size)))))).mono fun e w' h => op_none (by unfold intsOf; rw [if_neg h_43, if_neg h_45, if_neg h_42, if_neg h_47, if_neg h_37, if_neg h_38, if_neg h_124, if_neg h_94, if_neg h_shl, if_pos h_shr, if_pos h0]) h
    · exact (bin17_ok _ (intD n) (intD m) (datOf (.int (n / 2 ^ (min m 63).toNat))) rfl rfl w (fun w => b43_ok _ ⟨#[105, 110, 116]⟩ ⟨#[]⟩ n 0 0 0 0 0 none none 0 0 0 0 ⟨#[]⟩ m 0 0 0 0 0 none none 0 0 0 0 (datOf (.int (n / 2 ^ (min m 63).toNat))) true w (fun w => i_shr ⟨#[105, 110, 116]⟩ ⟨#[]⟩ n 0 0 0 0 0 none none 0 0 0 0 ⟨#[]⟩ m 0 0 0 0 0 none none 0 0 0 0 (by omega) w))).mono fun e w' h => op_some (d := .int (n / 2 ^ (min m 63).toNat)) (by unfold intsOf; rw [if_neg h_43, if_neg h_45, if_neg h_42, if_neg h_47, if_neg h_37, if_neg h_38, if_neg h_124, if_neg h_94, if_neg h_shl, if_pos h_shr, if_neg h0]) h
  by_cases h_le : op.toList = [60, 61]
  · obtain rfl := bytes_are h_le
    by_cases hl : n < m
    · exact (bin17_ok _ (intD n) (intD m) (datOf (.flag 1)) rfl rfl w (fun w => b43_ok _ ⟨#[105, 110, 116]⟩ ⟨#[]⟩ n 0 0 0 0 0 none none 0 0 0 0 ⟨#[]⟩ m 0 0 0 0 0 none none 0 0 0 0 (datOf (.flag 1)) true w (fun w => i_le_l ⟨#[105, 110, 116]⟩ ⟨#[]⟩ n 0 0 0 0 0 none none 0 0 0 0 ⟨#[]⟩ m 0 0 0 0 0 none none 0 0 0 0 hl w))).mono fun e w' h => op_some (d := .flag 1) (by unfold intsOf; rw [if_neg h_43, if_neg h_45, if_neg h_42, if_neg h_47, if_neg h_37, if_neg h_38, if_neg h_124, if_neg h_94, if_neg h_shl, if_neg h_shr, if_pos h_le, decide_eq_true (show n ≤ m by omega)]; rfl) h
    by_cases he : n = m
    · exact (bin17_ok _ (intD n) (intD m) (datOf (.flag 1)) rfl rfl w (fun w => b43_ok _ ⟨#[105, 110, 116]⟩ ⟨#[]⟩ n 0 0 0 0 0 none none 0 0 0 0 ⟨#[]⟩ m 0 0 0 0 0 none none 0 0 0 0 (datOf (.flag 1)) true w (fun w => i_le_e ⟨#[105, 110, 116]⟩ ⟨#[]⟩ n 0 0 0 0 0 none none 0 0 0 0 ⟨#[]⟩ m 0 0 0 0 0 none none 0 0 0 0 he w))).mono fun e w' h => op_some (d := .flag 1) (by unfold intsOf; rw [if_neg h_43, if_neg h_45, if_neg h_42, if_neg h_47, if_neg h_37, if_neg h_38, if_neg h_124, if_neg h_94, if_neg h_shl, if_neg h_shr, if_pos h_le, decide_eq_true (show n ≤ m by omega)]; rfl) h
    · have hg : m < n := by omega
      exact (bin17_ok _ (intD n) (intD m) (datOf (.flag 0)) rfl rfl w (fun w => b43_ok _ ⟨#[105, 110, 116]⟩ ⟨#[]⟩ n 0 0 0 0 0 none none 0 0 0 0 ⟨#[]⟩ m 0 0 0 0 0 none none 0 0 0 0 (datOf (.flag 0)) true w (fun w => i_le_g ⟨#[105, 110, 116]⟩ ⟨#[]⟩ n 0 0 0 0 0 none none 0 0 0 0 ⟨#[]⟩ m 0 0 0 0 0 none none 0 0 0 0 hg w))).mono fun e w' h => op_some (d := .flag 0) (by unfold intsOf; rw [if_neg h_43, if_neg h_45, if_neg h_42, if_neg h_47, if_neg h_37, if_neg h_38, if_neg h_124, if_neg h_94, if_neg h_shl, if_neg h_shr, if_pos h_le, decide_eq_false (show ¬ n ≤ m by omega)]; rfl) h
  by_cases h_lt : op.toList = [60]
  · obtain rfl := bytes_are h_lt
    by_cases hl : n < m
    · exact (bin17_ok _ (intD n) (intD m) (datOf (.flag 1)) rfl rfl w (fun w => b43_ok _ ⟨#[105, 110, 116]⟩ ⟨#[]⟩ n 0 0 0 0 0 none none 0 0 0 0 ⟨#[]⟩ m 0 0 0 0 0 none none 0 0 0 0 (datOf (.flag 1)) true w (fun w => i_lt_l ⟨#[105, 110, 116]⟩ ⟨#[]⟩ n 0 0 0 0 0 none none 0 0 0 0 ⟨#[]⟩ m 0 0 0 0 0 none none 0 0 0 0 hl w))).mono fun e w' h => op_some (d := .flag 1) (by unfold intsOf; rw [if_neg h_43, if_neg h_45, if_neg h_42, if_neg h_47, if_neg h_37, if_neg h_38, if_neg h_124, if_neg h_94, if_neg h_shl, if_neg h_shr, if_neg h_le, if_pos h_lt, decide_eq_true (show n < m by omega)]; rfl) h
    by_cases he : n = m
    · exact (bin17_ok _ (intD n) (intD m) (datOf (.flag 0)) rfl rfl w (fun w => b43_ok _ ⟨#[105, 110, 116]⟩ ⟨#[]⟩ n 0 0 0 0 0 none none 0 0 0 0 ⟨#[]⟩ m 0 0 0 0 0 none none 0 0 0 0 (datOf (.flag 0)) true w (fun w => i_lt_e ⟨#[105, 110, 116]⟩ ⟨#[]⟩ n 0 0 0 0 0 none none 0 0 0 0 ⟨#[]⟩ m 0 0 0 0 0 none none 0 0 0 0 he w))).mono fun e w' h => op_some (d := .flag 0) (by unfold intsOf; rw [if_neg h_43, if_neg h_45, if_neg h_42, if_neg h_47, if_neg h_37, if_neg h_38, if_neg h_124, if_neg h_94, if_neg h_shl, if_neg h_shr, if_neg h_le, if_pos h_lt, decide_eq_false (show ¬ n < m by omega)]; rfl) h
    · have hg : m < n := by omega
      exact (bin17_ok _ (intD n) (intD m) (datOf (.flag 0)) rfl rfl w (fun w => b43_ok _ ⟨#[105, 110, 116]⟩ ⟨#[]⟩ n 0 0 0 0 0 none none 0 0 0 0 ⟨#[]⟩ m 0 0 0 0 0 none none 0 0 0 0 (datOf (.flag 0)) true w (fun w => i_lt_g ⟨#[105, 110, 116]⟩ ⟨#[]⟩ n 0 0 0 0 0 none none 0 0 0 0 ⟨#[]⟩ m 0 0 0 0 0 none none 0 0 0 0 hg w))).mono fun e w' h => op_some (d := .flag 0) (by unfold intsOf; rw [if_neg h_43, if_neg h_45, if_neg h_42, if_neg h_47, if_neg h_37, if_neg h_38, if_neg h_124, if_neg h_94, if_neg h_shl, if_neg h_shr, if_neg h_le, if_pos h_lt, decide_eq_false (show ¬ n < m by omega)]; rfl) h
  by_cases h_ge : op.toList = [62, 61]
  · obtain rfl := bytes_are h_ge
    by_cases hl : n < m
    · exact (bin17_ok _ (intD n) (intD m) (datOf (.flag 0)) rfl rfl w (fun w => b43_ok _ ⟨#[105, 110, 116]⟩ ⟨#[]⟩ n 0 0 0 0 0 none none 0 0 0 0 ⟨#[]⟩ m 0 0 0 0 0 none none 0 0 0 0 (datOf (.flag 0)) true w (fun w => i_ge_l ⟨#[105, 110, 116]⟩ ⟨#[]⟩ n 0 0 0 0 0 none none 0 0 0 0 ⟨#[]⟩ m 0 0 0 0 0 none none 0 0 0 0 hl w))).mono fun e w' h => op_some (d := .flag 0) (by unfold intsOf; rw [if_neg h_43, if_neg h_45, if_neg h_42, if_neg h_47, if_neg h_37, if_neg h_38, if_neg h_124, if_neg h_94, if_neg h_shl, if_neg h_shr, if_neg h_le, if_neg h_lt, if_pos h_ge, decide_eq_false (show ¬ m ≤ n by omega)]; rfl) h
    by_cases he : n = m
    · exact (bin17_ok _ (intD n) (intD m) (datOf (.flag 1)) rfl rfl w (fun w => b43_ok _ ⟨#[105, 110, 116]⟩ ⟨#[]⟩ n 0 0 0 0 0 none none 0 0 0 0 ⟨#[]⟩ m 0 0 0 0 0 none none 0 0 0 0 (datOf (.flag 1)) true w (fun w => i_ge_e ⟨#[105, 110, 116]⟩ ⟨#[]⟩ n 0 0 0 0 0 none none 0 0 0 0 ⟨#[]⟩ m 0 0 0 0 0 none none 0 0 0 0 he w))).mono fun e w' h => op_some (d := .flag 1) (by unfold intsOf; rw [if_neg h_43, if_neg h_45, if_neg h_42, if_neg h_47, if_neg h_37, if_neg h_38, if_neg h_124, if_neg h_94, if_neg h_shl, if_neg h_shr, if_neg h_le, if_neg h_lt, if_pos h_ge, decide_eq_true (show m ≤ n by omega)]; rfl) h
    · have hg : m < n := by omega
      exact (bin17_ok _ (intD n) (intD m) (datOf (.flag 1)) rfl rfl w (fun w => b43_ok _ ⟨#[105, 110, 116]⟩ ⟨#[]⟩ n 0 0 0 0 0 none none 0 0 0 0 ⟨#[]⟩ m 0 0 0 0 0 none none 0 0 0 0 (datOf (.flag 1)) true w (fun w => i_ge_g ⟨#[105, 110, 116]⟩ ⟨#[]⟩ n 0 0 0 0 0 none none 0 0 0 0 ⟨#[]⟩ m 0 0 0 0 0 none none 0 0 0 0 hg w))).mono fun e w' h => op_some (d := .flag 1) (by unfold intsOf; rw [if_neg h_43, if_neg h_45, if_neg h_42, if_neg h_47, if_neg h_37, if_neg h_38, if_neg h_124, if_neg h_94, if_neg h_shl, if_neg h_shr, if_neg h_le, if_neg h_lt, if_pos h_ge, decide_eq_true (show m ≤ n by omega)]; rfl) h
  by_cases h_gt : op.toList = [62]
  · obtain rfl := bytes_are h_gt
    by_cases hl : n < m
    · exact (bin17_ok _ (intD n) (intD m) (datOf (.flag 0)) rfl rfl w (fun w => b43_ok _ ⟨#[105, 110, 116]⟩ ⟨#[]⟩ n 0 0 0 0 0 none none 0 0 0 0 ⟨#[]⟩ m 0 0 0 0 0 none none 0 0 0 0 (datOf (.flag 0)) true w (fun w => i_gt_l ⟨#[105, 110, 116]⟩ ⟨#[]⟩ n 0 0 0 0 0 none none 0 0 0 0 ⟨#[]⟩ m 0 0 0 0 0 none none 0 0 0 0 hl w))).mono fun e w' h => op_some (d := .flag 0) (by unfold intsOf; rw [if_neg h_43, if_neg h_45, if_neg h_42, if_neg h_47, if_neg h_37, if_neg h_38, if_neg h_124, if_neg h_94, if_neg h_shl, if_neg h_shr, if_neg h_le, if_neg h_lt, if_neg h_ge, if_pos h_gt, decide_eq_false (show ¬ m < n by omega)]; rfl) h
    by_cases he : n = m
    · exact (bin17_ok _ (intD n) (intD m) (datOf (.flag 0)) rfl rfl w (fun w => b43_ok _ ⟨#[105, 110, 116]⟩ ⟨#[]⟩ n 0 0 0 0 0 none none 0 0 0 0 ⟨#[]⟩ m 0 0 0 0 0 none none 0 0 0 0 (datOf (.flag 0)) true w (fun w => i_gt_e ⟨#[105, 110, 116]⟩ ⟨#[]⟩ n 0 0 0 0 0 none none 0 0 0 0 ⟨#[]⟩ m 0 0 0 0 0 none none 0 0 0 0 he w))).mono fun e w' h => op_some (d := .flag 0) (by unfold intsOf; rw [if_neg h_43, if_neg h_45, if_neg h_42, if_neg h_47, if_neg h_37, if_neg h_38, if_neg h_124, if_neg h_94, if_neg h_shl, if_neg h_shr, if_neg h_le, if_neg h_lt, if_neg h_ge, if_pos h_gt, decide_eq_false (show ¬ m < n by omega)]; rfl) h
    · have hg : m < n := by omega
      exact (bin17_ok _ (intD n) (intD m) (datOf (.flag 1)) rfl rfl w (fun w => b43_ok _ ⟨#[105, 110, 116]⟩ ⟨#[]⟩ n 0 0 0 0 0 none none 0 0 0 0 ⟨#[]⟩ m 0 0 0 0 0 none none 0 0 0 0 (datOf (.flag 1)) true w (fun w => i_gt_g ⟨#[105, 110, 116]⟩ ⟨#[]⟩ n 0 0 0 0 0 none none 0 0 0 0 ⟨#[]⟩ m 0 0 0 0 0 none none 0 0 0 0 hg w))).mono fun e w' h => op_some (d := .flag 1) (by unfold intsOf; rw [if_neg h_43, if_neg h_45, if_neg h_42, if_neg h_47, if_neg h_37, if_neg h_38, if_neg h_124, if_neg h_94, if_neg h_shl, if_neg h_shr, if_neg h_le, if_neg h_lt, if_neg h_ge, if_pos h_gt, decide_eq_true (show m < n by omega)]; rfl) h
  have hno : intsOf op n m = none := by unfold intsOf; rw [if_neg h_43, if_neg h_45, if_neg h_42, if_neg h_47, if_neg h_37, if_neg h_38, if_neg h_124, if_neg h_94, if_neg h_shl, if_neg h_shr, if_neg h_le, if_neg h_lt, if_neg h_ge, if_neg h_gt]
  rcases Int.lt_trichotomy n m with hl | he | hg
  · exact (bin17_no op 2 ⟨#[105, 110, 116]⟩ ⟨#[]⟩ n 0 0 0 0 0 none none 0 0 0 0 ⟨#[]⟩ m 0 0 0 0 0 none none 0 0 0 0 (mk 1 ⟨#[98, 111, 111, 108]⟩ 0 0 ⟨#[]⟩) w (by show op.size + 3 + 3 ≤ _; omega) (fun w => b43_ok _ ⟨#[105, 110, 116]⟩ ⟨#[]⟩ n 0 0 0 0 0 none none 0 0 0 0 ⟨#[]⟩ m 0 0 0 0 0 none none 0 0 0 0 _ false w (fun w => i_no_l op ⟨#[105, 110, 116]⟩ ⟨#[]⟩ n 0 0 0 0 0 none none 0 0 0 0 ⟨#[]⟩ m 0 0 0 0 0 none none 0 0 0 0 (bytes_no h_43) (bytes_no h_45) (bytes_no h_42) (bytes_no h_47) (bytes_no h_37) (bytes_no h_38) (bytes_no h_124) (bytes_no h_94) (bytes_no h_shl) (bytes_no h_shr) (bytes_no h_le) (bytes_no h_lt) (bytes_no h_ge) (bytes_no h_gt) hl w))).mono fun e w' h => op_none hno h
  · exact (bin17_no op 2 ⟨#[105, 110, 116]⟩ ⟨#[]⟩ n 0 0 0 0 0 none none 0 0 0 0 ⟨#[]⟩ m 0 0 0 0 0 none none 0 0 0 0 (mk 1 ⟨#[98, 111, 111, 108]⟩ 0 0 ⟨#[]⟩) w (by show op.size + 3 + 3 ≤ _; omega) (fun w => b43_ok _ ⟨#[105, 110, 116]⟩ ⟨#[]⟩ n 0 0 0 0 0 none none 0 0 0 0 ⟨#[]⟩ m 0 0 0 0 0 none none 0 0 0 0 _ false w (fun w => i_no_e op ⟨#[105, 110, 116]⟩ ⟨#[]⟩ n 0 0 0 0 0 none none 0 0 0 0 ⟨#[]⟩ m 0 0 0 0 0 none none 0 0 0 0 (bytes_no h_43) (bytes_no h_45) (bytes_no h_42) (bytes_no h_47) (bytes_no h_37) (bytes_no h_38) (bytes_no h_124) (bytes_no h_94) (bytes_no h_shl) (bytes_no h_shr) (bytes_no h_le) (bytes_no h_lt) (bytes_no h_ge) (bytes_no h_gt) he w))).mono fun e w' h => op_none hno h
  · exact (bin17_no op 2 ⟨#[105, 110, 116]⟩ ⟨#[]⟩ n 0 0 0 0 0 none none 0 0 0 0 ⟨#[]⟩ m 0 0 0 0 0 none none 0 0 0 0 (mk 1 ⟨#[98, 111, 111, 108]⟩ 0 0 ⟨#[]⟩) w (by show op.size + 3 + 3 ≤ _; omega) (fun w => b43_ok _ ⟨#[105, 110, 116]⟩ ⟨#[]⟩ n 0 0 0 0 0 none none 0 0 0 0 ⟨#[]⟩ m 0 0 0 0 0 none none 0 0 0 0 _ false w (fun w => i_no_g op ⟨#[105, 110, 116]⟩ ⟨#[]⟩ n 0 0 0 0 0 none none 0 0 0 0 ⟨#[]⟩ m 0 0 0 0 0 none none 0 0 0 0 (bytes_no h_43) (bytes_no h_45) (bytes_no h_42) (bytes_no h_47) (bytes_no h_37) (bytes_no h_38) (bytes_no h_124) (bytes_no h_94) (bytes_no h_shl) (bytes_no h_shr) (bytes_no h_le) (bytes_no h_lt) (bytes_no h_ge) (bytes_no h_gt) hg w))).mono fun e w' h => op_none hno h
theorem num_flags (op : ByteArray) (hs : op.size ≤ 2000000) (n m : Int) (w : World) : Calls Tryz.prog 121 #[.string op, (flagD n).val, (flagD m).val] w (OpPost none w) :=
  (bin17_no op 1 ⟨#[98, 111, 111, 108]⟩ ⟨#[]⟩ n 0 0 0 0 0 none none 0 0 0 0 ⟨#[]⟩ m 0 0 0 0 0 none none 0 0 0 0 zeroD w (by show op.size + 4 + 4 ≤ _; omega) (fun w => b43_none op 1 ⟨#[98, 111, 111, 108]⟩ ⟨#[]⟩ n 0 0 0 0 0 none none 0 0 0 0 ⟨#[]⟩ m 0 0 0 0 0 none none 0 0 0 0 w rfl rfl rfl)).mono fun e w' h => op_none rfl h
theorem num_mixed (op : ByteArray) (hs : op.size ≤ 2000000) (n m : Int) (w : World) : Calls Tryz.prog 121 #[.string op, (intD n).val, (flagD m).val] w (OpPost none w) :=
  (bin17_nek op ⟨#[105, 110, 116]⟩ ⟨#[98, 111, 111, 108]⟩ ⟨#[]⟩ ⟨#[]⟩ 2 1 n 0 0 0 0 0 m 0 0 0 0 0 none none none none 0 0 0 0 0 0 0 0 w (by show op.size + 3 + 4 ≤ _; omega) rfl).mono fun e w' h => op_none rfl h
theorem num_mixed2 (op : ByteArray) (hs : op.size ≤ 2000000) (n m : Int) (w : World) : Calls Tryz.prog 121 #[.string op, (flagD n).val, (intD m).val] w (OpPost none w) :=
  (bin17_nek op ⟨#[98, 111, 111, 108]⟩ ⟨#[105, 110, 116]⟩ ⟨#[]⟩ ⟨#[]⟩ 1 2 n 0 0 0 0 0 m 0 0 0 0 0 none none none none 0 0 0 0 0 0 0 0 w (by show op.size + 4 + 3 ≤ _; omega) rfl).mono fun e w' h => op_none rfl h
def numBi (op : ByteArray) : Cst → Cst → Option Cst
  | .int n, .int m => intsOf op n m
  | _, _ => none
theorem num_binary (op : ByteArray) (hs : op.size ≤ 2000000) (b a : Cst) (ha : CstOk a) (w : World) (G : GlobP w) : Calls Tryz.prog 121 #[.string op, (datOf b).val, (datOf a).val] w (OpPost (numBi op b a) w) := by
  cases b with
  | int n =>
    cases a with
    | int m => exact num_ints op hs n m ha.1 ha.2 w G
    | flag m => exact num_mixed op hs n m w
  | flag n =>
    cases a with
    | int m => exact num_mixed2 op hs n m w
    | flag m => exact num_flags op hs n m w
theorem right_of (c : Cst) (hc : CstOk c) (w : World) (G : OwnG w) : Calls Tryz.prog 153 #[(datOf c).val] w fun e w' => e = .returned (.bool true) ∧ Below w.heap.size w w' := by
  cases c with
  | int n => exact val_Right _ (fun g w G R hg => val_right_int n g w G R hg) w G
  | flag n => exact val_Right _ (fun g w G R hg => val_right_flag n hc g w G R hg) w G
theorem val_equal_of (b a : Cst) (hb : CstOk b) (ha : CstOk a) (w : World) (G : OwnG w) : Calls Tryz.prog 120 #[(datOf b).val, (datOf a).val] w fun e w' => e = .returned (.tuple #[.bool (eqOf b a), .nilIface]) ∧ Below w.heap.size w w' := by
  refine val_equal (datOf b) (datOf a) (eqOf b a) (right_of b hb) (right_of a ha) ?_ w G
  cases b with
  | int n =>
    cases a with
    | int m => exact equal_ints n m
    | flag m => exact equal_mixed n m
  | flag n =>
    cases a with
    | int m => exact equal_mixed2 n m
    | flag m => exact equal_flags n m
end Go.Proofs.YtmecmlpoallpcaaGreatDoor

/- peep.constant (91), lays (93). -/
namespace Go.Proofs.YtmecmlpoallpcaaGreatDoor
set_option linter.unusedVariables false
open Go.RowKit Go.Proofs.PeepPlain

def insV (i : Ins) : Value := .agg #[.int .i64 i.op, .int .i64 i.a, .int .i64 i.b, .string i.text, .int .i64 i.pos]
theorem atoi_any (s : ByteArray) (n : Int) (h : digitsOf s = some n) (w : World) : Calls Tryz.prog 118 #[.string s] w fun e w' => e = .returned (.tuple #[.int .i64 n, .nilIface]) ∧ Below w.heap.size w w' := by
  have hd := digits_are h
  have hl := Lib.itoa_length_le n hd.2.2.1 hd.2.2.2
  have hs : s.size ≤ 21 := by
    have : s.data.toList.length ≤ 21 := by rw [← hd.2.1]; exact hl
    rw [Array.length_toList] at this
    exact this
  refine (Tryz.strconv_Atoi_ok s (by omega) n hd.1 w).mono ?_
  rintro e w' ⟨rfl, rfl | ⟨t, rfl⟩⟩
  · exact ⟨rfl, Below.refl _ _⟩
  · exact ⟨rfl, Lib.bytesWorld_below _ _ _⟩
set_option maxRecDepth 200000 in
set_option maxHeartbeats 4000000 in
theorem constant_int (i : Ins) (n : Int) (hop : i.op = 3) (h : digitsOf i.text = some n) (w : World) : Calls Tryz.prog 91 #[insV i] w fun e w' => e = .returned (.tuple #[(intD n).val, .bool true]) ∧ Below w.heap.size w w' := by
  have HA := Lib.hid (atoi_any i.text n h)
  unfold insV
  rw [hop]
  generalize i.text = s at HA ⊢
  generalize i.a = a
  generalize i.b = b
  generalize i.pos = p
  clear h hop
  go_enter Tryz.func91, Tryz.ntmps91
  go_wp2_with (first
    | (go_at_call 118; refine (HA.out _).mono ?_; rintro en w2 ⟨rfl, hb⟩
       have R2 := (row_atOne w _ 131 zeroC).below hb (row_atOne w _ 131 zeroC).lt
       have B2 := Lib.hid (below_more (below2 w _ _) hb (below2 w _ _).size)
       obtain ⟨a0, a1, a2, a3, a4, a5, a6, a7, a8, a9, a10, af⟩ := row11 R2
       have R2H := Lib.hid R2
       clear hb R2))
  go_region
  all_goals go_wp2
  all_goals exact bodyPost_ret (ret_ct rfl _ _ (w.heap.size + 1) _ rfl (set11 R2H.out).drew rfl) rfl ⟨rfl, below_drew (below11 B2.out (by omega))⟩
set_option maxRecDepth 200000 in
set_option maxHeartbeats 4000000 in
theorem constant_flag (i : Ins) (hop : i.op = 6) (w : World) : Calls Tryz.prog 91 #[insV i] w fun e w' => e = .returned (.tuple #[(flagD i.a).val, .bool true]) ∧ Below w.heap.size w w' := by
  unfold insV
  rw [hop]
  generalize i.text = s
  generalize i.a = a
  generalize i.b = b
  generalize i.pos = p
  clear hop
  go_enter Tryz.func91, Tryz.ntmps91
  go_wp2
  go_returns
  exact ⟨rfl, by go_grown⟩
set_option maxRecDepth 200000 in
set_option maxHeartbeats 4000000 in
theorem constant_none (i : Ins) (h3 : i.op ≠ 3) (h6 : i.op ≠ 6) (w : World) : Calls Tryz.prog 91 #[insV i] w fun e w' => e = .returned (.tuple #[zeroD.val, .bool false]) ∧ Below w.heap.size w w' := by
  have b3 : (i.op == 3) = false := beq_eq_false_iff_ne.2 h3
  have b6 : (i.op == 6) = false := beq_eq_false_iff_ne.2 h6
  clear h3 h6
  unfold insV
  generalize i.text = s
  generalize i.a = a
  generalize i.b = b
  generalize i.pos = p
  generalize i.op = o at *
  go_enter Tryz.func91, Tryz.ntmps91
  go_wp2
  go_returns
  exact ⟨rfl, by go_grown⟩
/-- An instruction that may be looked at: an int's digits are an int's. -/
def InsOk (i : Ins) : Prop := (i.op = 3 → ∃ n, digitsOf i.text = some n) ∧ (i.op = 6 → i.a = 0 ∨ i.a = 1)
def ConstPost (r : Option Cst) (w : World) (e : Ending) (w' : World) : Prop :=
  (match r with
    | some d => e = .returned (.tuple #[(datOf d).val, .bool true])
    | none => e = .returned (.tuple #[zeroD.val, .bool false])) ∧ Below w.heap.size w w'
theorem constant_walk (i : Ins) (h : InsOk i) (w : World) : Calls Tryz.prog 91 #[insV i] w (ConstPost (cstOf i) w) := by
  unfold cstOf
  by_cases h3 : i.op = 3
  · obtain ⟨n, hn⟩ := h.1 h3
    rw [if_pos h3, hn]
    exact constant_int i n h3 hn w
  · rw [if_neg h3]
    by_cases h6 : i.op = 6
    · rw [if_pos h6]
      exact constant_flag i h6 w
    · rw [if_neg h6]
      exact constant_none i h3 h6 w
theorem cst_ok {i : Ins} (h : InsOk i) {c : Cst} (hc : cstOf i = some c) : CstOk c := by
  unfold cstOf at hc
  by_cases h3 : i.op = 3
  · rw [if_pos h3] at hc
    obtain ⟨n, hn⟩ := h.1 h3
    rw [hn] at hc
    injection hc with hc
    subst hc
    exact (digits_are hn).2.2
  · rw [if_neg h3] at hc
    by_cases h6 : i.op = 6
    · rw [if_pos h6] at hc
      injection hc with hc
      subst hc
      exact h.2 h6
    · rw [if_neg h6] at hc
      cases hc
theorem ret_c50 {fn : Func} {p : Tmp} (h : fn.results = #[.cell p 50]) (tmps : Array Value) (w : World) (g : Nat) (cs : List Value) (hp : tmps.getD p undef = .pointer (some ⟨g, 0, none⟩)) (hr : Row w g 50 cs) (hl : cs.length = 5) :
    (results fn tmps).run Tryz.prog w = .ok (.agg cs.toArray) w :=
  results_cell_row h tmps w g 50 cs.toArray (0, 0) _ hp hr Tryz.underlying50 rfl (by rw [size50]; simp [hl])
theorem set5 {w : World} {g : Nat} {o0 o1 o2 o3 o4 v0 v1 v2 v3 v4 : Value} (h : Row w g 50 [o0, o1, o2, o3, o4]) :
    Row (((((w.setCell ⟨g, 0, none⟩ v0).setCell ⟨g, 1, none⟩ v1).setCell ⟨g, 2, none⟩ v2).setCell ⟨g, 3, none⟩ v3).setCell ⟨g, 4, none⟩ v4) g 50 [v0, v1, v2, v3, v4] := by
  have := ((((h.set 0 v0).set 1 v1).set 2 v2).set 3 v3).set 4 v4
  simpa using this
theorem below5s {a w : World} {g B : Nat} {v0 v1 v2 v3 v4 : Value} (h : Below B a w) (hk : B ≤ g) : Below B a (((((w.setCell ⟨g, 0, none⟩ v0).setCell ⟨g, 1, none⟩ v1).setCell ⟨g, 2, none⟩ v2).setCell ⟨g, 3, none⟩ v3).setCell ⟨g, 4, none⟩ v4) :=
  ((((h.setCell hk v0).setCell hk v1).setCell hk v2).setCell hk v3).setCell hk v4
set_option maxRecDepth 200000 in
set_option maxHeartbeats 4000000 in
theorem lays_flag (n p : Int) (w : World) : Calls Tryz.prog 93 #[(flagD n).val, .int .i64 p] w fun e w' => e = .returned (insV (layOf (.flag n) p)) ∧ Below w.heap.size w w' := by
  unfold flagD mk Dat.val sBool insV layOf
  go_enter Tryz.func93, Tryz.ntmps93
  go_wp2
  go_returns
  exact ⟨rfl, by go_grown⟩
set_option maxRecDepth 200000 in
set_option maxHeartbeats 4000000 in
theorem lays_int (n p : Int) (h0 : -9223372036854775808 ≤ n) (h1 : n ≤ 9223372036854775807) (w : World) (G : GlobP w) : Calls Tryz.prog 93 #[(intD n).val, .int .i64 p] w fun e w' => e = .returned (insV (layOf (.int n) p)) ∧ Below w.heap.size w w' := by
  have HI := Lib.hid (show ∀ w1, Below w.heap.size w w1 → Calls Tryz.prog 66 #[.int .i64 n] w1 fun e w' => e = .returned (.string ⟨(Lib.itoa n).toArray⟩) ∧ Below w1.heap.size w1 w' from fun w1 hb1 => (Tryz.strconv_Itoa n h0 h1 w1 (G.below hb1).pow).mono fun e w' ⟨he, q, os, hw⟩ => ⟨he, hw ▸ Lib.below_grow _ w1 (Nat.le_refl _) q os⟩)
  clear G h0 h1
  unfold intD mk Dat.val insV layOf
  dsimp only
  generalize (⟨(Lib.itoa n).toArray⟩ : ByteArray) = s at *
  go_enter Tryz.func93, Tryz.ntmps93
  go_wp2_with (first
    | (go_at_call 66; refine (HI.out _ (below2 w _ _)).mono ?_; rintro en w2 ⟨rfl, hb⟩
       have R2 := (row_atOne w _ 50 [.int .i64 0, .int .i64 0, .int .i64 0, .string ⟨#[]⟩, .int .i64 0]).below hb (row_atOne w _ 50 _).lt
       have B2 := Lib.hid (below_more (below2 w _ _) hb (below2 w _ _).size)
       have a0 := R2.cell 0
       have a1 := R2.cell 1
       have a2 := R2.cell 2
       have a3 := R2.cell 3
       have a4 := R2.cell 4
       have af := R2.free
       have R2H := Lib.hid R2
       clear hb R2))
  exact bodyPost_ret (ret_c50 rfl _ _ (w.heap.size + 1) _ rfl (set5 R2H.out) rfl) rfl ⟨rfl, below5s B2.out (by omega)⟩
theorem lays_walk (c : Cst) (hc : CstOk c) (p : Int) (w : World) (G : GlobP w) : Calls Tryz.prog 93 #[(datOf c).val, .int .i64 p] w fun e w' => e = .returned (insV (layOf c p)) ∧ Below w.heap.size w w' := by
  cases c with
  | int n => exact lays_int n p hc.1 hc.2 w G
  | flag n => exact lays_flag n p w
end Go.Proofs.YtmecmlpoallpcaaGreatDoor
