/- NumberOrder of any arguments. Conditions: the arguments fit their kinds; what strconv reads of the package's variables. -/
import Derived.Test.YtehakhplglhkdaaGreatDoorOrder3
import Derived.Test.YtehakhplglhkdaaGreatDoorBin17
namespace Go.Proofs.YtehakhplglhkdaaGreatDoor
set_option linter.unusedVariables false
open Go.RowKit

/-- What pick answers. -/
def pv (c m : Int) : Int := if c < 0 then -((c + 1).tmod m) else c % m
theorem pick_pv (c m : Int) (hm : 0 < m) (hm2 : m ≤ 9223372036854775807) (w : World) (hc : I64 c) :
    Calls Tryz.prog 30 #[.int .i64 c, .int .i64 m] w fun e w' => e = .returned (.int .i64 (pv c m)) ∧ w' = w := by
  obtain ⟨h1, h2⟩ := hc
  have hm0 : (m == 0) = false := by simp; omega
  unfold pv
  by_cases hn : c < 0
  · have hw : wrap64 (-wrap64 (c + 1)) = -(c + 1) := by unfold wrap64; omega
    rw [if_pos hn]
    go_enter Tryz.func30, Tryz.ntmps30
    go_wp2
    go_returns
    exact ⟨rfl, rfl⟩
  · rw [if_neg hn]
    go_enter Tryz.func30, Tryz.ntmps30
    go_wp2
    go_returns
    exact ⟨rfl, rfl⟩
theorem pv_range (c m : Int) (hm : 0 < m) : 0 ≤ pv c m ∧ pv c m < m := by
  unfold pv
  split
  · rw [← Int.neg_tmod]
    exact ⟨Int.tmod_nonneg m (by omega), Int.tmod_lt_of_pos _ hm⟩
  · exact ⟨Int.emod_nonneg c (by omega), Int.emod_lt_of_pos c hm⟩

theorem nx_nan (x : Int) (h0 : 0 ≤ x) (h1 : x < 18446744073709551616) : NX x = (Ieee.double.read x.toNat).isNaN := by
  rw [nan_bits]
  unfold NX
  obtain ⟨n, rfl⟩ := Int.eq_ofNat_of_zero_le h0
  simp only [Int.toNat_natCast]
  congr 1
  apply propext
  show 18437736874454810624 < ((n : Int) * 2) % 18446744073709551616 ↔ _
  omega

set_option maxRecDepth 200000 in
theorem numberOrder_any (kind a b x y : Int) (t s u : ByteArray) (w : World) (hk : I64 kind) (hx : 0 ≤ x ∧ x < 18446744073709551616) (hy : 0 ≤ y ∧ y < 18446744073709551616) (hG : Glob w) :
    Calls Tryz.prog 8 #[.int .i64 kind, .string t, .int .i64 a, .int .i64 b, .int .u64 x, .int .u64 y, .string s, .string u] w fun e w' => e = .returned (.bool true) ∧ Below w.heap.size w w' := by
  have hP := fun w => pick_pv kind 3 (by decide) (by decide) w hk
  have hr := pv_range kind 3 (by decide)
  rcases (show pv kind 3 = 0 ∨ pv kind 3 = 1 ∨ pv kind 3 = 2 by omega) with e | e | e <;> rw [e] at hP
  · refine order_2 kind a b x y t s u w hG hP (decide (a < b)) (decide (b < a)) (decide (a ≤ b)) (decide (b ≤ a)) (decide (b < a))
        (fun w => says_of _ _ _ _ w fun w => int_lt t s u a b x y w) (fun w => says_of _ _ _ _ w fun w => int_gt t s u a b x y w) (fun w => says_of _ _ _ _ w fun w => int_le t s u a b x y w) (fun w => says_of _ _ _ _ w fun w => int_ge t s u a b x y w)
        (fun w => says_of _ _ _ _ w fun w => int_lt t u s b a y x w) ?_
    by_cases h1 : a < b <;> by_cases h2 : b < a <;> simp [h1, h2] <;> omega
  · have B := fun (op : ByteArray) (r : Bool) (hf : ∀ w, Calls Tryz.prog 69 #[.string op, .string t, .float .f64 x.toNat, .float .f64 y.toNat] w fun e w' => e = .returned (.tuple #[(yes r).val, .bool true]) ∧ Below w.heap.size w w') (w : World) =>
      says_of op (mk 3 t a x s) (mk 3 t b y u) r w fun w => bin17_ok op (mk 3 t a x s) (mk 3 t b y u) (yes r) rfl rfl w fun w => bin3_of op t s u a b x y (yes r) true w hf
    have B' := fun (op : ByteArray) (r : Bool) (hf : ∀ w, Calls Tryz.prog 69 #[.string op, .string t, .float .f64 y.toNat, .float .f64 x.toNat] w fun e w' => e = .returned (.tuple #[(yes r).val, .bool true]) ∧ Below w.heap.size w w') (w : World) =>
      says_of op (mk 3 t b y u) (mk 3 t a x s) r w fun w => bin17_ok op (mk 3 t b y u) (mk 3 t a x s) (yes r) rfl rfl w fun w => bin3_of op t u s b a y x (yes r) true w hf
    refine order_3 kind a b x y t s u w hG hP _ _ _ _ _ (B _ _ fun w => fl_lt t _ _ _ rfl w) (B _ _ fun w => fl_gt t _ _ _ rfl w) (B _ _ fun w => fl_le t _ _ _ rfl w) (B _ _ fun w => fl_ge t _ _ _ rfl w) (B' _ _ fun w => fl_lt t _ _ _ rfl w) ?_
    rw [nx_nan x hx.1 hx.2, nx_nan y hy.1 hy.2]
    have h1 := order_swap Ieee.double x.toNat y.toNat
    have h2 := order_none Ieee.double x.toNat y.toNat
    show _ ∧ _ ∧ ((Ieee.double.order x.toNat y.toNat == some .lt) = true ∧ _ ∨ _) ∧ _ ∨ _
    change Ieee.double.order y.toNat x.toNat = _ at h1
    rw [show FloatKind.f64.format = Ieee.double from rfl, h1]
    generalize Ieee.double.order x.toNat y.toNat = o at *
    generalize (Ieee.double.read x.toNat).isNaN = nx at *
    generalize (Ieee.double.read y.toNat).isNaN = ny at *
    rcases o with _ | _ | _ | _ <;> cases nx <;> cases ny <;> simp_all [Ordering.swap]
  · rcases cmp_three s.data.toList u.data.toList with ⟨h, h2⟩ | ⟨h, h2⟩ | ⟨h, h2⟩
    · exact order_4 kind a b x y t s u w hG hP true false true false false
        (fun w => says_of _ _ _ _ w fun w => text_lt_n t s u a b x y w h) (fun w => says_of _ _ _ _ w fun w => text_gt_n t s u a b x y w h) (fun w => says_of _ _ _ _ w fun w => text_le_n t s u a b x y w h) (fun w => says_of _ _ _ _ w fun w => text_ge_n t s u a b x y w h)
        (fun w => says_of _ _ _ _ w fun w => text_lt_p t u s b a y x w h2) (by simp)
    · exact order_4 kind a b x y t s u w hG hP false false true true false
        (fun w => says_of _ _ _ _ w fun w => text_lt_z t s u a b x y w h) (fun w => says_of _ _ _ _ w fun w => text_gt_z t s u a b x y w h) (fun w => says_of _ _ _ _ w fun w => text_le_z t s u a b x y w h) (fun w => says_of _ _ _ _ w fun w => text_ge_z t s u a b x y w h)
        (fun w => says_of _ _ _ _ w fun w => text_lt_z t u s b a y x w h2) (by simp)
    · exact order_4 kind a b x y t s u w hG hP false true false true true
        (fun w => says_of _ _ _ _ w fun w => text_lt_p t s u a b x y w h) (fun w => says_of _ _ _ _ w fun w => text_gt_p t s u a b x y w h) (fun w => says_of _ _ _ _ w fun w => text_le_p t s u a b x y w h) (fun w => says_of _ _ _ _ w fun w => text_ge_p t s u a b x y w h)
        (fun w => says_of _ _ _ _ w fun w => text_lt_n t u s b a y x w h2) (by simp)
end Go.Proofs.YtehakhplglhkdaaGreatDoor
