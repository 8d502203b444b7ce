/- number.Binary's comparisons of two texts of one type. No condition. -/
import Derived.Test.YtehakhplglhkdaaGreatDoorYes
namespace Go.Proofs.YtehakhplglhkdaaGreatDoor
set_option linter.unusedVariables false
open Go.RowKit

theorem cmp_three (a b : List UInt8) : Lib.compareBytes a b = -1 ∧ Lib.compareBytes b a = 1 ∨ Lib.compareBytes a b = 0 ∧ Lib.compareBytes b a = 0 ∨ Lib.compareBytes a b = 1 ∧ Lib.compareBytes b a = -1 := by
  induction a generalizing b with
  | nil => cases b <;> simp [Lib.compareBytes]
  | cons x a ih =>
    cases b with
    | nil => simp [Lib.compareBytes]
    | cons y b =>
      by_cases h1 : x < y
      · have h2 : ¬ y < x := fun h => absurd (UInt8.lt_trans h1 h) (UInt8.lt_irrefl _)
        simp [Lib.compareBytes, h1, h2]
      · by_cases h2 : y < x
        · simp [Lib.compareBytes, h1, h2]
        · simpa [Lib.compareBytes, h1, h2] using ih b
set_option maxRecDepth 200000 in
set_option maxHeartbeats 4000000 in
theorem text_lt_n (t s u : ByteArray) (a b x y : Int) (w : World) (h : Lib.compareBytes s.data.toList u.data.toList = -1) : Calls Tryz.prog 17 #[.string ⟨#[60]⟩, (mk 4 t a x s).val, (mk 4 t b y u).val] w fun e w' => e = .returned (.tuple #[(yes true).val, .nilIface]) ∧ Below w.heap.size w w' := by
  have hc := Tryz.strings_Compare s u
  rw [h] at hc
  clear h
  unfold yes sBool mk Dat.val
  go_enter Tryz.func17, Tryz.ntmps17
  go_wp2_with (first
    | (go_at_call 71; refine (hc _).mono ?_; rintro en w2 ⟨rfl, rfl⟩)
    | go_in)
  go_returns
  exact ⟨rfl, by go_grown⟩
set_option maxRecDepth 200000 in
set_option maxHeartbeats 4000000 in
theorem text_lt_z (t s u : ByteArray) (a b x y : Int) (w : World) (h : Lib.compareBytes s.data.toList u.data.toList = 0) : Calls Tryz.prog 17 #[.string ⟨#[60]⟩, (mk 4 t a x s).val, (mk 4 t b y u).val] w fun e w' => e = .returned (.tuple #[(yes false).val, .nilIface]) ∧ Below w.heap.size w w' := by
  have hc := Tryz.strings_Compare s u
  rw [h] at hc
  clear h
  unfold yes sBool mk Dat.val
  go_enter Tryz.func17, Tryz.ntmps17
  go_wp2_with (first
    | (go_at_call 71; refine (hc _).mono ?_; rintro en w2 ⟨rfl, rfl⟩)
    | go_in)
  go_returns
  exact ⟨rfl, by go_grown⟩
set_option maxRecDepth 200000 in
set_option maxHeartbeats 4000000 in
theorem text_lt_p (t s u : ByteArray) (a b x y : Int) (w : World) (h : Lib.compareBytes s.data.toList u.data.toList = 1) : Calls Tryz.prog 17 #[.string ⟨#[60]⟩, (mk 4 t a x s).val, (mk 4 t b y u).val] w fun e w' => e = .returned (.tuple #[(yes false).val, .nilIface]) ∧ Below w.heap.size w w' := by
  have hc := Tryz.strings_Compare s u
  rw [h] at hc
  clear h
  unfold yes sBool mk Dat.val
  go_enter Tryz.func17, Tryz.ntmps17
  go_wp2_with (first
    | (go_at_call 71; refine (hc _).mono ?_; rintro en w2 ⟨rfl, rfl⟩)
    | go_in)
  go_returns
  exact ⟨rfl, by go_grown⟩
set_option maxRecDepth 200000 in
set_option maxHeartbeats 4000000 in
theorem text_le_n (t s u : ByteArray) (a b x y : Int) (w : World) (h : Lib.compareBytes s.data.toList u.data.toList = -1) : Calls Tryz.prog 17 #[.string ⟨#[60, 61]⟩, (mk 4 t a x s).val, (mk 4 t b y u).val] w fun e w' => e = .returned (.tuple #[(yes true).val, .nilIface]) ∧ Below w.heap.size w w' := by
  have hc := Tryz.strings_Compare s u
  rw [h] at hc
  clear h
  unfold yes sBool mk Dat.val
  go_enter Tryz.func17, Tryz.ntmps17
  go_wp2_with (first
    | (go_at_call 71; refine (hc _).mono ?_; rintro en w2 ⟨rfl, rfl⟩)
    | go_in)
  go_returns
  exact ⟨rfl, by go_grown⟩
set_option maxRecDepth 200000 in
set_option maxHeartbeats 4000000 in
theorem text_le_z (t s u : ByteArray) (a b x y : Int) (w : World) (h : Lib.compareBytes s.data.toList u.data.toList = 0) : Calls Tryz.prog 17 #[.string ⟨#[60, 61]⟩, (mk 4 t a x s).val, (mk 4 t b y u).val] w fun e w' => e = .returned (.tuple #[(yes true).val, .nilIface]) ∧ Below w.heap.size w w' := by
  have hc := Tryz.strings_Compare s u
  rw [h] at hc
  clear h
  unfold yes sBool mk Dat.val
  go_enter Tryz.func17, Tryz.ntmps17
  go_wp2_with (first
    | (go_at_call 71; refine (hc _).mono ?_; rintro en w2 ⟨rfl, rfl⟩)
    | go_in)
  go_returns
  exact ⟨rfl, by go_grown⟩
set_option maxRecDepth 200000 in
set_option maxHeartbeats 4000000 in
theorem text_le_p (t s u : ByteArray) (a b x y : Int) (w : World) (h : Lib.compareBytes s.data.toList u.data.toList = 1) : Calls Tryz.prog 17 #[.string ⟨#[60, 61]⟩, (mk 4 t a x s).val, (mk 4 t b y u).val] w fun e w' => e = .returned (.tuple #[(yes false).val, .nilIface]) ∧ Below w.heap.size w w' := by
  have hc := Tryz.strings_Compare s u
  rw [h] at hc
  clear h
  unfold yes sBool mk Dat.val
  go_enter Tryz.func17, Tryz.ntmps17
  go_wp2_with (first
    | (go_at_call 71; refine (hc _).mono ?_; rintro en w2 ⟨rfl, rfl⟩)
    | go_in)
  go_returns
  exact ⟨rfl, by go_grown⟩
end Go.Proofs.YtehakhplglhkdaaGreatDoor
