/- Floats: how two stand to each other, what a NaN is by its bits; what the walk takes of them. -/
import Derived.Laws.FloatArith
import Derived.Test.YtehakhplglhkdaaGreatDoorBase
namespace Go.Proofs.YtehakhplglhkdaaGreatDoor
open Ieee Go.RowKit

theorem cmp_swap (a b : Int) : compare b a = (compare a b).swap := by
  simp only [compare, compareOfLessAndEq]
  by_cases h1 : a < b
  · simp [h1, show ¬ b < a by omega, show ¬ b = a by omega]
  · by_cases h2 : a = b
    · subst h2; simp
    · simp [h1, h2, show b < a by omega]
theorem datum_swap (x y : Datum) : y.order x = (x.order y).map Ordering.swap := by
  cases x <;> cases y <;> simp only [Datum.order, Option.map_some, Option.map_none]
  case number.number s m i t n j => rw [Int.min_comm j i, cmp_swap]
  case number.infinity s m i t => cases t <;> rfl
  case infinity.number s t m i => cases s <;> rfl
  case infinity.infinity s t => cases s <;> cases t <;> rfl
theorem order_swap (f : Format) (x y : Nat) : f.order y x = (f.order x y).map Ordering.swap := datum_swap _ _
theorem order_none (f : Format) (x y : Nat) : f.order x y = none ↔ (f.read x).isNaN = true ∨ (f.read y).isNaN = true := by
  unfold Format.order
  cases f.read x <;> cases f.read y <;> simp [Datum.order, Datum.isNaN]
theorem cmp_self (a : Int) : compare a a = .eq := by simp [compare, compareOfLessAndEq]
theorem order_self (f : Format) (x : Nat) : f.order x x = if (f.read x).isNaN then none else some .eq := by
  unfold Format.order
  cases f.read x with
  | nan s t => rfl
  | infinity s => cases s <;> rfl
  | number s m i => simp only [Datum.order, cmp_self, Datum.isNaN]; rfl
theorem nan_bits (b : Nat) : (double.read b).isNaN = decide (0x7FF0000000000000 < b % 0x8000000000000000) := by
  have e1 : double.signWeight = 0x8000000000000000 := by decide
  have e2 : double.binade = 0x10000000000000 := by decide
  have e3 : double.infRung = 0x7FF0000000000000 := by decide
  unfold Format.read
  rw [e1, e2, e3]
  dsimp only
  split
  · simp [Datum.isNaN]; omega
  · split
    · simp [Datum.isNaN]; omega
    · split
      · rename_i h; simp [Datum.isNaN, h]
      · simp [Datum.isNaN]; omega

@[go_sem] theorem bits64 (x : Nat) (w : World) : (callFunc 64 #[.float .f64 x]).run Tryz.prog w = .ok (.value (.int .u64 x)) w := by kernel_rfl
@[go_sem] theorem frombits64 (x : Int) (w : World) : (callFunc 37 #[.int .u64 x]).run Tryz.prog w = .ok (.value (.float .f64 x.toNat)) w := by kernel_rfl

/-- The one NaN that comes out. -/
def fixNan (b : Nat) : Int := if (double.read b).isNaN then 9221120237041090561 else (b : Int)
theorem nan_ne (b : Nat) : (double.order b b != some .eq) = (double.read b).isNaN := by
  rw [order_self]
  cases (double.read b).isNaN <;> rfl
set_option maxRecDepth 200000 in
theorem float_any (t : ByteArray) (b : Nat) (w : World) : Calls Tryz.prog 36 #[.string t, .float .f64 b] w fun e w' => e = .returned (mk 3 t 0 (fixNan b) ⟨#[]⟩).val ∧ Below w.heap.size w w' := by
  unfold fixNan
  cases h : (double.read b).isNaN with
  | true =>
    have h' : (FloatKind.f64.format.order b b != some .eq) = true := (nan_ne b).trans h
    clear h
    go_enter Tryz.func36, Tryz.ntmps36
    go_wp2
    go_returns
    exact ⟨rfl, by go_grown⟩
  | false =>
    have h' : (FloatKind.f64.format.order b b != some .eq) = false := (nan_ne b).trans h
    clear h
    go_enter Tryz.func36, Tryz.ntmps36
    go_wp2
    go_returns
    exact ⟨rfl, by go_grown⟩
end Go.Proofs.YtehakhplglhkdaaGreatDoor
