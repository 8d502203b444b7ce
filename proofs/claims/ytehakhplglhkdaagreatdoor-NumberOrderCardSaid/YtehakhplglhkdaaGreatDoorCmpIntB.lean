/- number.Binary's comparisons of two ints of one type. No condition. -/
import Derived.Test.YtehakhplglhkdaaGreatDoorYes
namespace Go.Proofs.YtehakhplglhkdaaGreatDoor
set_option linter.unusedVariables false
open Go.RowKit

set_option maxRecDepth 200000 in
set_option maxHeartbeats 4000000 in
theorem int_gt (t s u : ByteArray) (a b x y : Int) (w : World) : Calls Tryz.prog 17 #[.string ⟨#[62]⟩, (mk 2 t a x s).val, (mk 2 t b y u).val] w fun e w' => e = .returned (.tuple #[(yes (decide (b < a))).val, .nilIface]) ∧ Below w.heap.size w w' := by
  unfold yes sBool
  rcases Int.lt_trichotomy a b with h | h | h
  · have h2 : ¬ b < a := by omega
    have h3 : (decide (b < a)) = false := by simp; omega
    rw [h3]
    clear h3
    unfold mk Dat.val
    go_enter Tryz.func17, Tryz.ntmps17
    go_wp2
    go_quiet (fail)
    go_wp2
    go_returns
    refine And.intro rfl ?_
    go_grown
    all_goals (with_reducible refine below_drewN ?_ _)
    go_grown
  · subst h
    have h2 : ¬ a < a := by omega
    have h3 : (decide (a < a)) = false := by simp
    rw [h3]
    clear h3
    unfold mk Dat.val
    go_enter Tryz.func17, Tryz.ntmps17
    go_wp2
    go_quiet (fail)
    go_wp2
    go_returns
    refine And.intro rfl ?_
    go_grown
    all_goals (with_reducible refine below_drewN ?_ _)
    go_grown
  · have h2 : ¬ a < b := by omega
    have h3 : (decide (b < a)) = true := by simp; omega
    rw [h3]
    clear h3
    unfold mk Dat.val
    go_enter Tryz.func17, Tryz.ntmps17
    go_wp2
    go_quiet (fail)
    go_wp2
    go_returns
    refine And.intro rfl ?_
    go_grown
    all_goals (with_reducible refine below_drewN ?_ _)
    go_grown
set_option maxRecDepth 200000 in
set_option maxHeartbeats 4000000 in
theorem int_ge (t s u : ByteArray) (a b x y : Int) (w : World) : Calls Tryz.prog 17 #[.string ⟨#[62, 61]⟩, (mk 2 t a x s).val, (mk 2 t b y u).val] w fun e w' => e = .returned (.tuple #[(yes (decide (b ≤ a))).val, .nilIface]) ∧ Below w.heap.size w w' := by
  unfold yes sBool
  rcases Int.lt_trichotomy a b with h | h | h
  · have h2 : ¬ b < a := by omega
    have h3 : (decide (b ≤ a)) = false := by simp; omega
    rw [h3]
    clear h3
    unfold mk Dat.val
    go_enter Tryz.func17, Tryz.ntmps17
    go_wp2
    go_quiet (fail)
    go_wp2
    go_returns
    refine And.intro rfl ?_
    go_grown
    all_goals (with_reducible refine below_drewN ?_ _)
    go_grown
  · subst h
    have h2 : ¬ a < a := by omega
    have h3 : (decide (a ≤ a)) = true := by simp
    rw [h3]
    clear h3
    unfold mk Dat.val
    go_enter Tryz.func17, Tryz.ntmps17
    go_wp2
    go_quiet (fail)
    go_wp2
    go_returns
    refine And.intro rfl ?_
    go_grown
    all_goals (with_reducible refine below_drewN ?_ _)
    go_grown
  · have h2 : ¬ a < b := by omega
    have h3 : (decide (b ≤ a)) = true := by simp; omega
    rw [h3]
    clear h3
    unfold mk Dat.val
    go_enter Tryz.func17, Tryz.ntmps17
    go_wp2
    go_quiet (fail)
    go_wp2
    go_returns
    refine And.intro rfl ?_
    go_grown
    all_goals (with_reducible refine below_drewN ?_ _)
    go_grown
end Go.Proofs.YtehakhplglhkdaaGreatDoor
