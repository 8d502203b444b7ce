/- number.Float at the text 1.5, and what it calls. Conditions: what three of the package variables hold. -/
import Derived.Test.YtehakhplglhkdaaGreatDoorParse15
import Derived.Test.YtehakhplglhkdaaGreatDoorShelf
import Derived.Test.YtehakhplglhkdaaGreatDoorFloats
namespace Go.Proofs.YtehakhplglhkdaaGreatDoor
set_option linter.unusedVariables false
open Go.RowKit

theorem digits1 (w : World) : Calls Tryz.prog 55 #[.string ⟨#[49]⟩] w fun e w' => e = .returned (.bool true) ∧ w' = w := by
  go_enter Tryz.func55, Tryz.ntmps55
  go_wp2
  go_rounds 2
  go_returns
  exact ⟨rfl, rfl⟩
theorem digits15 (w : World) : Calls Tryz.prog 55 #[.string ⟨#[49, 53]⟩] w fun e w' => e = .returned (.bool true) ∧ w' = w := by
  go_enter Tryz.func55, Tryz.ntmps55
  go_wp2
  go_rounds 3
  go_returns
  exact ⟨rfl, rfl⟩
theorem digits120 (w : World) : Calls Tryz.prog 55 #[.string ⟨#[49, 50, 48]⟩] w fun e w' => e = .returned (.bool true) ∧ w' = w := by
  go_enter Tryz.func55, Tryz.ntmps55
  go_wp2
  go_rounds 4
  go_returns
  exact ⟨rfl, rfl⟩
theorem cut15 (w : World) : Calls Tryz.prog 56 #[.string ⟨#[49, 46, 53]⟩, .string ⟨#[46]⟩] w fun e w' => e = .returned (.tuple #[.string ⟨#[49]⟩, .string ⟨#[53]⟩, .bool true]) ∧ ∃ n, w.drewN n = w' := by
  have h : Lib.indexByte [49, 46, 53] 46 = 1 := by decide
  have hi := Tryz.stringslite_Index_one ⟨#[49, 46, 53]⟩ 46
  simp only [h] at hi
  go_enter Tryz.func56, Tryz.ntmps56
  go_wp2_with (first
    | (go_at_call 93; refine (hi _).mono ?_; rintro en w2 ⟨rfl, rfl⟩)
    | go_in)
  go_quiet (fail)
  go_wp2
  go_returns
  exact ⟨rfl, nq, rfl⟩
theorem fix15 : fixNan 4609434218613702656 = 4609434218613702656 := by kernel_rfl
set_option maxRecDepth 200000 in
theorem numFloat15 (w : World) (hG : Glob w) :
    Calls Tryz.prog 26 #[.string ⟨#[49, 46, 53]⟩] w fun e w' => e = .returned (.tuple #[(mk 3 ⟨#[102, 108, 111, 97, 116]⟩ 0 4609434218613702656 ⟨#[]⟩).val, .bool true]) ∧ Below w.heap.size w w' := by
  have HG := Lib.hid hG
  have hne : (FloatKind.f64.format.order 4609434218613702656 4609434218613702656 != some .eq) = false := by kernel_rfl
  clear hG
  go_enter Tryz.func26, Tryz.ntmps26
  go_wp2_with (first
    | (go_at_call 56; refine (cut15 _).mono ?_; rintro en w2 ⟨rfl, n2, rfl⟩)
    | (go_at_call 55; first | (with_reducible (refine (digits1 _).mono ?_)) | (rw [show (⟨#[49]⟩ ++ ⟨#[53]⟩ : ByteArray) = ⟨#[49, 53]⟩ from rfl]; with_reducible (refine (digits15 _).mono ?_))
       rintro en w2 ⟨rfl, rfl⟩)
    | (go_at_call 57; refine (parse15 _ (HG.out.below (below_drewN (below1 _ _) _))).mono ?_; rintro en w2 ⟨rfl, rfl⟩)
    | (go_at_call 36; go_in) | (go_at_call 62; go_in))
  go_returns
  refine And.intro rfl ?_
  go_grown
  all_goals (with_reducible refine below_drewN ?_ _)
  go_grown
end Go.Proofs.YtehakhplglhkdaaGreatDoor
