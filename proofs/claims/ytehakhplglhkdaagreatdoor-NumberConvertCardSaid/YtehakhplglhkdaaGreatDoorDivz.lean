/- number.Binary: an int by nought. No condition. -/
import Derived.Test.YtehakhplglhkdaaGreatDoorPut
import Derived.Deep.QuietTactic
import Derived.BigQuiet
namespace Go.Proofs.YtehakhplglhkdaaGreatDoor
set_option linter.unusedVariables false
open Go.RowKit

theorem row_at2 (w : World) (A B : Obj) (t : TypeId) (cs : List Value) : Row (((w.alloc A).alloc B).alloc (.cells cs.toArray t)) (w.heap.size + 1 + 1) t cs := by
  have := Row.made ((w.alloc A).alloc B) t cs
  simpa using this
theorem row_at3 (w : World) (A B C : Obj) (t : TypeId) (cs : List Value) : Row ((((w.alloc A).alloc B).alloc C).alloc (.cells cs.toArray t)) (w.heap.size + 1 + 1 + 1) t cs := by
  have := Row.made (((w.alloc A).alloc B).alloc C) t cs
  simpa using this
def sDivide : ByteArray := ⟨#[100, 105, 118, 105, 100, 101]⟩
def zeroD : Dat := mk 0 ⟨#[]⟩ 0 0 ⟨#[]⟩
/-- What is known of a pair of a datum and a fault. -/
def IsFault (w w' : World) (v : Value) (x y : ByteArray) : Prop := ∃ g, v = .iface 64 (.pointer (some ⟨g, 0, none⟩)) ∧ w.heap.size ≤ g ∧ Row w' g 35 [.string x, .string y]

set_option maxRecDepth 100000 in
set_option maxHeartbeats 1000000 in
theorem ints_divz (t : ByteArray) (a : Int) (w : World) : Calls Tryz.prog 68 #[.string ⟨#[47]⟩, (mk 2 t a 0 ⟨#[]⟩).val, (mk 2 t 0 0 ⟨#[]⟩).val] w fun e w' =>
    ∃ v, e = .returned (.tuple #[zeroD.val, .bool false, v]) ∧ IsFault w w' v sDivide ⟨#[]⟩ ∧ Below w.heap.size w w' := by
  unfold mk Dat.val
  go_enter Tryz.func68, Tryz.ntmps68
  go_wp2_with fail
  go_quiet (fail)
  go_wp2_with (first
    | (go_at_call 65; refine (fault_any _ _ _).mono ?_; rintro en w2 ⟨g, rfl, hg, hr, hb⟩
       have hR2 : Hid (Row w2 (w.heap.size + 1 + 1) 28 zeroC) := (Row.drewN (row_at2 w _ _ 28 zeroC) _).below hb (by simp)
       have hB2 : Hid (Below w.heap.size w w2) := below_more (below_drewN (below3 w _ _ _) _) hb (by simp; omega)
       have hF2 := Lib.hid hr
       have hgs : w.heap.size + 1 + 1 < g := by simp at hg; omega
       clear hr hb hg)
    | (refine put_dat (.tmp 6) (.tmp 55) (w.heap.size + 1 + 1) zeroC zeroD.cells w2 rfl rfl rfl rfl hR2.out rfl rfl rfl ?_; intro w5 hr5 hb5 hf5
       have hB5 := Lib.hid (hB2.out.trans (hb5 _ (by omega)))
       have hR5 := Lib.hid hr5
       have hF5 : Hid (Row w5 g 35 [.string sDivide, .string ⟨#[]⟩]) := (hf5 g (by omega)).trans hF2.out
       clear hB2 hR2 hb5 hr5 hf5 hF2))
  refine bodyPost_ret (ret_ctt rfl _ _ (w.heap.size + 1 + 1) _ rfl hR5.out rfl) rfl ⟨_, rfl, ⟨g, rfl, by omega, hF5.out⟩, hB5.out⟩

set_option maxRecDepth 100000 in
set_option maxHeartbeats 1000000 in
theorem binary_divz (t : ByteArray) (a : Int) (w : World) : Calls Tryz.prog 43 #[.string ⟨#[47]⟩, (mk 2 t a 0 ⟨#[]⟩).val, (mk 2 t 0 0 ⟨#[]⟩).val] w fun e w' =>
    ∃ v, e = .returned (.tuple #[zeroD.val, .bool false, v]) ∧ IsFault w w' v sDivide ⟨#[]⟩ ∧ Below w.heap.size w w' := by
  have hi := ints_divz t a
  unfold mk Dat.val at hi ⊢
  go_enter Tryz.func43, Tryz.ntmps43
  go_wp2_with (first
    | (go_at_call 68; refine (hi _).mono ?_; rintro en w2 ⟨v, rfl, ⟨g, rfl, hg, hr⟩, hb⟩
       have hR2 : Hid (Row w2 (w.heap.size + 1 + 1) 28 zeroC) := (row_at2 w _ _ 28 zeroC).below hb (by simp)
       have hB2 : Hid (Below w.heap.size w w2) := below_more (below3 w _ _ _) hb (by simp; omega)
       have hF2 := Lib.hid hr
       have hgs : w.heap.size + 1 + 1 < g := by simp at hg; omega
       clear hr hb hg hi)
    | (refine put_dat (.tmp 6) (.tmp 22) (w.heap.size + 1 + 1) zeroC zeroD.cells w2 rfl rfl rfl rfl hR2.out rfl rfl rfl ?_; intro w5 hr5 hb5 hf5
       have hB5 := Lib.hid (hB2.out.trans (hb5 _ (by omega)))
       have hR5 := Lib.hid hr5
       have hF5 : Hid (Row w5 g 35 [.string sDivide, .string ⟨#[]⟩]) := (hf5 g (by omega)).trans hF2.out
       clear hB2 hR2 hb5 hr5 hf5 hF2))
  refine bodyPost_ret (ret_ctt rfl _ _ (w.heap.size + 1 + 1) _ rfl hR5.out rfl) rfl ⟨_, rfl, ⟨g, rfl, by omega, hF5.out⟩, hB5.out⟩

set_option maxRecDepth 100000 in
set_option maxHeartbeats 1000000 in
theorem bin_divz (t : ByteArray) (a : Int) (w : World) : Calls Tryz.prog 17 #[.string ⟨#[47]⟩, (mk 2 t a 0 ⟨#[]⟩).val, (mk 2 t 0 0 ⟨#[]⟩).val] w fun e w' =>
    ∃ v, e = .returned (.tuple #[zeroD.val, v]) ∧ IsFault w w' v sDivide ⟨#[]⟩ ∧ Below w.heap.size w w' := by
  have hi := binary_divz t a
  unfold mk Dat.val at hi ⊢
  go_enter Tryz.func17, Tryz.ntmps17
  go_wp2_with (first
    | (go_at_call 43; refine (hi _).mono ?_; rintro en w2 ⟨v, rfl, ⟨g, rfl, hg, hr⟩, hb⟩
       have hR2 : Hid (Row w2 (w.heap.size + 1 + 1) 28 zeroC) := (row_at2 w _ _ 28 zeroC).below hb (by simp)
       have hB2 : Hid (Below w.heap.size w w2) := below_more (below3 w _ _ _) hb (by simp; omega)
       have hF2 := Lib.hid hr
       have hgs : w.heap.size + 1 + 1 < g := by simp at hg; omega
       clear hr hb hg hi)
    | (refine put_dat (.tmp 6) (.tmp 36) (w.heap.size + 1 + 1) zeroC zeroD.cells (w2.alloc (.cells zeroC.toArray 28)) rfl rfl rfl rfl (hR2.out.alloc _) rfl rfl rfl ?_; intro w5 hr5 hb5 hf5
       have hB5 : Hid (Below w.heap.size w w5) := (below_more hB2.out (below1 _ _) hB2.out.size).trans (hb5 _ (by omega))
       have hR5 := Lib.hid hr5
       have hF5 : Hid (Row w5 g 35 [.string sDivide, .string ⟨#[]⟩]) := (hf5 g (by omega)).trans (hF2.out.alloc _)
       clear hB2 hR2 hb5 hr5 hf5 hF2))

  refine bodyPost_ret (ret_ct rfl _ _ (w.heap.size + 1 + 1) _ rfl hR5.out rfl) rfl ⟨_, rfl, ⟨g, rfl, by omega, hF5.out⟩, hB5.out⟩
end Go.Proofs.YtehakhplglhkdaaGreatDoor
