/- number.Binary by the contract of number.binary; number.floats' comparisons. No condition. -/
import Derived.Test.YtehakhplglhkdaaGreatDoorBin3
namespace Go.Proofs.YtehakhplglhkdaaGreatDoor
set_option linter.unusedVariables false
open Go.RowKit

set_option maxRecDepth 200000 in
set_option maxHeartbeats 2000000 in
theorem bin17_ok (op : ByteArray) (C E d : Dat) (hk : E.k = C.k) (ht : E.t = C.t) (w : World)
    (hf : ∀ w, Calls Tryz.prog 43 #[.string op, C.val, E.val] w fun e w' => e = .returned (.tuple #[d.val, .bool true, .nilIface]) ∧ Below w.heap.size w w') :
    Calls Tryz.prog 17 #[.string op, C.val, E.val] w fun e w' => e = .returned (.tuple #[d.val, .nilIface]) ∧ Below w.heap.size w w' := by
  have HF := Lib.hid hf
  clear hf
  unfold Dat.val at HF
  rw [hk, ht] at HF
  unfold Dat.val
  rw [hk, ht]
  clear hk ht
  go_enter Tryz.func17, Tryz.ntmps17
  go_wp2_with (first
    | (go_at_call 43; refine (HF.out _).mono ?_
       rintro en w2 ⟨rfl, hb⟩
       have hR2 : Hid (Row w2 (w.heap.size + 1 + 1) 28 zeroC) := (row_at2 w _ _ 28 zeroC).below hb (by simp)
       have hB2 : Hid (Below w.heap.size w w2) := below_more (below3 w _ _ _) hb (by simp <;> omega)
       clear hb HF)
    | (refine put_dat (.tmp 6) (.tmp 36) (w.heap.size + 1 + 1) zeroC d.cells _ rfl rfl rfl rfl (hR2.out.alloc _) rfl rfl rfl ?_; intro w5 hr5 hb5 hf5
       have hB5 : Hid (Below w.heap.size w w5) := (below_more hB2.out (below1 _ _) hB2.out.size).trans (hb5 _ (by omega))
       have hR5 := Lib.hid hr5
       clear hB2 hR2 hb5 hr5))
  exact bodyPost_ret (ret_ct rfl _ _ (w.heap.size + 1 + 1) _ rfl hR5.out rfl) rfl ⟨rfl, hB5.out⟩

set_option maxRecDepth 200000 in
set_option maxHeartbeats 2000000 in
theorem fl_le (t : ByteArray) (x y : Nat) (o : Option Ordering) (ho : FloatKind.f64.format.order x y = o) (w : World) :
    Calls Tryz.prog 69 #[.string ⟨#[60, 61]⟩, .string t, .float .f64 x, .float .f64 y] w fun e w' => e = .returned (.tuple #[(yes (o == some .lt || o == some .eq)).val, .bool true]) ∧ Below w.heap.size w w' := by
  unfold yes sBool mk Dat.val
  rcases o with _ | _ | _ | _ <;>
  · go_enter Tryz.func69, Tryz.ntmps69
    go_wp2
    go_returns
    exact ⟨rfl, by go_grown⟩

set_option maxRecDepth 200000 in
set_option maxHeartbeats 2000000 in
theorem fl_gt (t : ByteArray) (x y : Nat) (o : Option Ordering) (ho : FloatKind.f64.format.order x y = o) (w : World) :
    Calls Tryz.prog 69 #[.string ⟨#[62]⟩, .string t, .float .f64 x, .float .f64 y] w fun e w' => e = .returned (.tuple #[(yes (o == some .gt)).val, .bool true]) ∧ Below w.heap.size w w' := by
  unfold yes sBool mk Dat.val
  rcases o with _ | _ | _ | _ <;>
  · go_enter Tryz.func69, Tryz.ntmps69
    go_wp2
    go_returns
    exact ⟨rfl, by go_grown⟩

set_option maxRecDepth 200000 in
set_option maxHeartbeats 2000000 in
theorem fl_ge (t : ByteArray) (x y : Nat) (o : Option Ordering) (ho : FloatKind.f64.format.order x y = o) (w : World) :
    Calls Tryz.prog 69 #[.string ⟨#[62, 61]⟩, .string t, .float .f64 x, .float .f64 y] w fun e w' => e = .returned (.tuple #[(yes (o == some .gt || o == some .eq)).val, .bool true]) ∧ Below w.heap.size w w' := by
  unfold yes sBool mk Dat.val
  rcases o with _ | _ | _ | _ <;>
  · go_enter Tryz.func69, Tryz.ntmps69
    go_wp2
    go_returns
    exact ⟨rfl, by go_grown⟩

set_option maxRecDepth 200000 in
set_option maxHeartbeats 2000000 in
theorem fl_lt (t : ByteArray) (x y : Nat) (o : Option Ordering) (ho : FloatKind.f64.format.order x y = o) (w : World) :
    Calls Tryz.prog 69 #[.string ⟨#[60]⟩, .string t, .float .f64 x, .float .f64 y] w fun e w' => e = .returned (.tuple #[(yes (o == some .lt)).val, .bool true]) ∧ Below w.heap.size w w' := by
  unfold yes sBool mk Dat.val
  rcases o with _ | _ | _ | _ <;>
  · go_enter Tryz.func69, Tryz.ntmps69
    go_wp2
    go_returns
    exact ⟨rfl, by go_grown⟩
end Go.Proofs.YtehakhplglhkdaaGreatDoor
