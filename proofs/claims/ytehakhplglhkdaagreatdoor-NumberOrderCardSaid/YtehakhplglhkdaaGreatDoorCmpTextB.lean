/- number.Binary's comparisons of two texts of one type. No condition. -/
import Derived.Test.YtehakhplglhkdaaGreatDoorYes
namespace Go.Proofs.YtehakhplglhkdaaGreatDoor
set_option linter.unusedVariables false
open Go.RowKit

set_option maxRecDepth 200000 in
set_option maxHeartbeats 4000000 in
theorem text_gt_n (t s u : ByteArray) (a b x y : Int) (w : World) (h : Lib.compareBytes s.data.toList u.data.toList = -1) : Calls Tryz.prog 17 #[.string ⟨#[62]⟩, (mk 4 t a x s).val, (mk 4 t b y u).val] w fun e w' => e = .returned (.tuple #[(yes false).val, .nilIface]) ∧ Below w.heap.size w w' := by
  have hc := Tryz.strings_Compare s u
  rw [h] at hc
  clear h
  unfold yes sBool mk Dat.val
  go_enter Tryz.func17, Tryz.ntmps17
  go_wp2_with (first
    | (go_at_call 71; refine (hc _).mono ?_; rintro en w2 ⟨rfl, rfl⟩)
    | go_in)
  go_returns
  exact ⟨rfl, by go_grown⟩
set_option maxRecDepth 200000 in
set_option maxHeartbeats 4000000 in
theorem text_gt_z (t s u : ByteArray) (a b x y : Int) (w : World) (h : Lib.compareBytes s.data.toList u.data.toList = 0) : Calls Tryz.prog 17 #[.string ⟨#[62]⟩, (mk 4 t a x s).val, (mk 4 t b y u).val] w fun e w' => e = .returned (.tuple #[(yes false).val, .nilIface]) ∧ Below w.heap.size w w' := by
  have hc := Tryz.strings_Compare s u
  rw [h] at hc
  clear h
  unfold yes sBool mk Dat.val
  go_enter Tryz.func17, Tryz.ntmps17
  go_wp2_with (first
    | (go_at_call 71; refine (hc _).mono ?_; rintro en w2 ⟨rfl, rfl⟩)
    | go_in)
  go_returns
  exact ⟨rfl, by go_grown⟩
set_option maxRecDepth 200000 in
set_option maxHeartbeats 4000000 in
theorem text_gt_p (t s u : ByteArray) (a b x y : Int) (w : World) (h : Lib.compareBytes s.data.toList u.data.toList = 1) : Calls Tryz.prog 17 #[.string ⟨#[62]⟩, (mk 4 t a x s).val, (mk 4 t b y u).val] w fun e w' => e = .returned (.tuple #[(yes true).val, .nilIface]) ∧ Below w.heap.size w w' := by
  have hc := Tryz.strings_Compare s u
  rw [h] at hc
  clear h
  unfold yes sBool mk Dat.val
  go_enter Tryz.func17, Tryz.ntmps17
  go_wp2_with (first
    | (go_at_call 71; refine (hc _).mono ?_; rintro en w2 ⟨rfl, rfl⟩)
    | go_in)
  go_returns
  exact ⟨rfl, by go_grown⟩
set_option maxRecDepth 200000 in
set_option maxHeartbeats 4000000 in
theorem text_ge_n (t s u : ByteArray) (a b x y : Int) (w : World) (h : Lib.compareBytes s.data.toList u.data.toList = -1) : Calls Tryz.prog 17 #[.string ⟨#[62, 61]⟩, (mk 4 t a x s).val, (mk 4 t b y u).val] w fun e w' => e = .returned (.tuple #[(yes false).val, .nilIface]) ∧ Below w.heap.size w w' := by
  have hc := Tryz.strings_Compare s u
  rw [h] at hc
  clear h
  unfold yes sBool mk Dat.val
  go_enter Tryz.func17, Tryz.ntmps17
  go_wp2_with (first
    | (go_at_call 71; refine (hc _).mono ?_; rintro en w2 ⟨rfl, rfl⟩)
    | go_in)
  go_returns
  exact ⟨rfl, by go_grown⟩
set_option maxRecDepth 200000 in
set_option maxHeartbeats 4000000 in
theorem text_ge_z (t s u : ByteArray) (a b x y : Int) (w : World) (h : Lib.compareBytes s.data.toList u.data.toList = 0) : Calls Tryz.prog 17 #[.string ⟨#[62, 61]⟩, (mk 4 t a x s).val, (mk 4 t b y u).val] w fun e w' => e = .returned (.tuple #[(yes true).val, .nilIface]) ∧ Below w.heap.size w w' := by
  have hc := Tryz.strings_Compare s u
  rw [h] at hc
  clear h
  unfold yes sBool mk Dat.val
  go_enter Tryz.func17, Tryz.ntmps17
  go_wp2_with (first
    | (go_at_call 71; refine (hc _).mono ?_; rintro en w2 ⟨rfl, rfl⟩)
    | go_in)
  go_returns
  exact ⟨rfl, by go_grown⟩
set_option maxRecDepth 200000 in
set_option maxHeartbeats 4000000 in
theorem text_ge_p (t s u : ByteArray) (a b x y : Int) (w : World) (h : Lib.compareBytes s.data.toList u.data.toList = 1) : Calls Tryz.prog 17 #[.string ⟨#[62, 61]⟩, (mk 4 t a x s).val, (mk 4 t b y u).val] w fun e w' => e = .returned (.tuple #[(yes true).val, .nilIface]) ∧ Below w.heap.size w w' := by
  have hc := Tryz.strings_Compare s u
  rw [h] at hc
  clear h
  unfold yes sBool mk Dat.val
  go_enter Tryz.func17, Tryz.ntmps17
  go_wp2_with (first
    | (go_at_call 71; refine (hc _).mono ?_; rintro en w2 ⟨rfl, rfl⟩)
    | go_in)
  go_returns
  exact ⟨rfl, by go_grown⟩
end Go.Proofs.YtehakhplglhkdaaGreatDoor
