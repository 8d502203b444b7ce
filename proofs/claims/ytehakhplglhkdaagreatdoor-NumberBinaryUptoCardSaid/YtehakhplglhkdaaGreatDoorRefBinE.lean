/- guiseref6.Binary where kinds or types are not alike, or the kind has no operation. Conditions: as said. -/
import Derived.Test.YtehakhplglhkdaaGreatDoorRefBinB
namespace Go.Proofs.YtehakhplglhkdaaGreatDoor
set_option linter.unusedVariables false
open Go.RowKit

set_option maxRecDepth 200000 in
set_option maxHeartbeats 4000000 in
theorem rb_nek (op x y : ByteArray) (k k2 : Int) (t2 : ByteArray) (t s : ByteArray) (n f ro rf rl rc : Int) (pa ia : Option Addr) (pn pc iN ic : Nat) (s2 : ByteArray) (n2 f2 ro2 rf2 rl2 rc2 : Int) (pa2 ia2 : Option Addr) (pn2 pc2 iN2 ic2 : Nat) (w : World) (h' : (k != k2) = true)
    (h44 : ∀ w, Calls Tryz.prog 44 #[.string op, (Dat.mk k t n f s ro rf rl rc pa pn pc ia iN ic).val, (Dat.mk k2 t2 n2 f2 s2 ro2 rf2 rl2 rc2 pa2 pn2 pc2 ia2 iN2 ic2).val] w fun e w' => e = .returned (.agg #[.string x, .string y]) ∧ Below w.heap.size w w') :
    Calls Tryz.prog 18 #[.string op, (Dat.mk k t n f s ro rf rl rc pa pn pc ia iN ic).val, (Dat.mk k2 t2 n2 f2 s2 ro2 rf2 rl2 rc2 pa2 pn2 pc2 ia2 iN2 ic2).val] w fun e w' => e = .returned (.tuple #[zeroD.val, .agg #[.string x, .string y]]) ∧ Below w.heap.size w w' := by
  have H44 := Lib.hid h44
  clear h44
  unfold Dat.val at *
  go_enter Tryz.func18, Tryz.ntmps18
  go_wp2_with (first
    | (go_at_call 44; refine (H44.out _).mono ?_; rintro en w4 ⟨rfl, hb⟩
       have R64 : Hid (Row w4 (w.heap.size + 1 + 1) 28 zeroC) := ((row_at2 w _ _ 28 zeroC).alloc _).below hb (by simp <;> omega)
       have R74 : Hid (Row w4 (w.heap.size + 1 + 1 + 1) 35 [.string ⟨#[]⟩, .string ⟨#[]⟩]) := (row_at3 w _ _ _ 35 [.string ⟨#[]⟩, .string ⟨#[]⟩]).below hb (by simp <;> omega)
       have HB4 : Hid (Below w.heap.size w w4) := below_more (below4 w _ _ _ _) hb (by simp <;> omega)
       clear hb H44)
    | (have ord := HB4.out.size; refine put_dat (.tmp 6) (.tmp 46) (w.heap.size + 1 + 1) zeroC zeroD.cells _ rfl rfl rfl rfl R64.out rfl rfl rfl ?_; intro w5 hr5 hb5 hf5
       have HB5 : Hid (Below w.heap.size w w5) := HB4.out.trans (hb5 _ (by omega))
       have R65 := Lib.hid hr5
       have R75 : Hid (Row w5 (w.heap.size + 1 + 1 + 1) 35 [.string ⟨#[]⟩, .string ⟨#[]⟩]) := (hf5 _ (by omega)).trans R74.out
       clear ord HB4 R64 R74 hb5 hr5 hf5)
    | (have ord := HB5.out.size; refine put_flt (.tmp 7) (.tmp 50) (w.heap.size + 1 + 1 + 1) _ _ _ rfl rfl rfl rfl R75.out rfl rfl rfl ?_; intro w6 hr6 hb6 hf6
       have HB6 : Hid (Below w.heap.size w w6) := HB5.out.trans (hb6 _ (by omega))
       have R76 := Lib.hid hr6
       have R66 := Lib.hid ((hf6 (w.heap.size + 1 + 1) (by omega)).trans R65.out)
       clear ord HB5 R65 R75 hb6 hr6 hf6))
  exact bodyPost_ret (ret_cc rfl _ _ (w.heap.size + 1 + 1) _ (w.heap.size + 1 + 1 + 1) _ rfl rfl R66.out R76.out rfl rfl) rfl ⟨rfl, HB6.out⟩
set_option maxRecDepth 200000 in
set_option maxHeartbeats 4000000 in
theorem rb_nety (op x y : ByteArray) (k : Int) (t2 : ByteArray) (t s : ByteArray) (n f ro rf rl rc : Int) (pa ia : Option Addr) (pn pc iN ic : Nat) (s2 : ByteArray) (n2 f2 ro2 rf2 rl2 rc2 : Int) (pa2 ia2 : Option Addr) (pn2 pc2 iN2 ic2 : Nat) (w : World) (h : (t.toList == t2.toList) = false)
    (h44 : ∀ w, Calls Tryz.prog 44 #[.string op, (Dat.mk k t n f s ro rf rl rc pa pn pc ia iN ic).val, (Dat.mk k t2 n2 f2 s2 ro2 rf2 rl2 rc2 pa2 pn2 pc2 ia2 iN2 ic2).val] w fun e w' => e = .returned (.agg #[.string x, .string y]) ∧ Below w.heap.size w w') :
    Calls Tryz.prog 18 #[.string op, (Dat.mk k t n f s ro rf rl rc pa pn pc ia iN ic).val, (Dat.mk k t2 n2 f2 s2 ro2 rf2 rl2 rc2 pa2 pn2 pc2 ia2 iN2 ic2).val] w fun e w' => e = .returned (.tuple #[zeroD.val, .agg #[.string x, .string y]]) ∧ Below w.heap.size w w' := by
  have H44 := Lib.hid h44
  clear h44
  unfold Dat.val at *
  go_enter Tryz.func18, Tryz.ntmps18
  go_wp2_with (first
    | (go_at_call 44; refine (H44.out _).mono ?_; rintro en w4 ⟨rfl, hb⟩
       have R64 : Hid (Row w4 (w.heap.size + 1 + 1) 28 zeroC) := ((row_at2 w _ _ 28 zeroC).alloc _).below hb (by simp <;> omega)
       have R74 : Hid (Row w4 (w.heap.size + 1 + 1 + 1) 35 [.string ⟨#[]⟩, .string ⟨#[]⟩]) := (row_at3 w _ _ _ 35 [.string ⟨#[]⟩, .string ⟨#[]⟩]).below hb (by simp <;> omega)
       have HB4 : Hid (Below w.heap.size w w4) := below_more (below4 w _ _ _ _) hb (by simp <;> omega)
       clear hb H44)
    | (have ord := HB4.out.size; refine put_dat (.tmp 6) (.tmp 46) (w.heap.size + 1 + 1) zeroC zeroD.cells _ rfl rfl rfl rfl R64.out rfl rfl rfl ?_; intro w5 hr5 hb5 hf5
       have HB5 : Hid (Below w.heap.size w w5) := HB4.out.trans (hb5 _ (by omega))
       have R65 := Lib.hid hr5
       have R75 : Hid (Row w5 (w.heap.size + 1 + 1 + 1) 35 [.string ⟨#[]⟩, .string ⟨#[]⟩]) := (hf5 _ (by omega)).trans R74.out
       clear ord HB4 R64 R74 hb5 hr5 hf5)
    | (have ord := HB5.out.size; refine put_flt (.tmp 7) (.tmp 50) (w.heap.size + 1 + 1 + 1) _ _ _ rfl rfl rfl rfl R75.out rfl rfl rfl ?_; intro w6 hr6 hb6 hf6
       have HB6 : Hid (Below w.heap.size w w6) := HB5.out.trans (hb6 _ (by omega))
       have R76 := Lib.hid hr6
       have R66 := Lib.hid ((hf6 (w.heap.size + 1 + 1) (by omega)).trans R65.out)
       clear ord HB5 R65 R75 hb6 hr6 hf6))
  exact bodyPost_ret (ret_cc rfl _ _ (w.heap.size + 1 + 1) _ (w.heap.size + 1 + 1 + 1) _ rfl rfl R66.out R76.out rfl rfl) rfl ⟨rfl, HB6.out⟩
set_option maxRecDepth 200000 in
set_option maxHeartbeats 4000000 in
theorem rb_none (op x y : ByteArray) (k : Int) (t s : ByteArray) (n f ro rf rl rc : Int) (pa ia : Option Addr) (pn pc iN ic : Nat) (s2 : ByteArray) (n2 f2 ro2 rf2 rl2 rc2 : Int) (pa2 ia2 : Option Addr) (pn2 pc2 iN2 ic2 : Nat) (w : World) (h2 : (k == 2) = false) (h3 : (k == 3) = false) (h4 : (k == 4) = false) (h2' : (k != 2) = true) (h3' : (k != 3) = true) (h4' : (k != 4) = true)
    (h44 : ∀ w, Calls Tryz.prog 44 #[.string op, (Dat.mk k t n f s ro rf rl rc pa pn pc ia iN ic).val, (Dat.mk k t n2 f2 s2 ro2 rf2 rl2 rc2 pa2 pn2 pc2 ia2 iN2 ic2).val] w fun e w' => e = .returned (.agg #[.string x, .string y]) ∧ Below w.heap.size w w') :
    Calls Tryz.prog 18 #[.string op, (Dat.mk k t n f s ro rf rl rc pa pn pc ia iN ic).val, (Dat.mk k t n2 f2 s2 ro2 rf2 rl2 rc2 pa2 pn2 pc2 ia2 iN2 ic2).val] w fun e w' => e = .returned (.tuple #[zeroD.val, .agg #[.string x, .string y]]) ∧ Below w.heap.size w w' := by
  have H44 := Lib.hid h44
  clear h44
  unfold Dat.val at *
  go_enter Tryz.func18, Tryz.ntmps18
  go_wp2_with (first
    | (go_at_call 44; refine (H44.out _).mono ?_; rintro en w4 ⟨rfl, hb⟩
       have R64 : Hid (Row w4 (w.heap.size + 1 + 1) 28 zeroC) := ((row_at2 w _ _ 28 zeroC).alloc _).below hb (by simp <;> omega)
       have R74 : Hid (Row w4 (w.heap.size + 1 + 1 + 1) 35 [.string ⟨#[]⟩, .string ⟨#[]⟩]) := (row_at3 w _ _ _ 35 [.string ⟨#[]⟩, .string ⟨#[]⟩]).below hb (by simp <;> omega)
       have HB4 : Hid (Below w.heap.size w w4) := below_more (below4 w _ _ _ _) hb (by simp <;> omega)
       clear hb H44)
    | (have ord := HB4.out.size; refine put_dat (.tmp 6) (.tmp 46) (w.heap.size + 1 + 1) zeroC zeroD.cells _ rfl rfl rfl rfl R64.out rfl rfl rfl ?_; intro w5 hr5 hb5 hf5
       have HB5 : Hid (Below w.heap.size w w5) := HB4.out.trans (hb5 _ (by omega))
       have R65 := Lib.hid hr5
       have R75 : Hid (Row w5 (w.heap.size + 1 + 1 + 1) 35 [.string ⟨#[]⟩, .string ⟨#[]⟩]) := (hf5 _ (by omega)).trans R74.out
       clear ord HB4 R64 R74 hb5 hr5 hf5)
    | (have ord := HB5.out.size; refine put_flt (.tmp 7) (.tmp 50) (w.heap.size + 1 + 1 + 1) _ _ _ rfl rfl rfl rfl R75.out rfl rfl rfl ?_; intro w6 hr6 hb6 hf6
       have HB6 : Hid (Below w.heap.size w w6) := HB5.out.trans (hb6 _ (by omega))
       have R76 := Lib.hid hr6
       have R66 := Lib.hid ((hf6 (w.heap.size + 1 + 1) (by omega)).trans R65.out)
       clear ord HB5 R65 R75 hb6 hr6 hf6))
  exact bodyPost_ret (ret_cc rfl _ _ (w.heap.size + 1 + 1) _ (w.heap.size + 1 + 1 + 1) _ rfl rfl R66.out R76.out rfl rfl) rfl ⟨rfl, HB6.out⟩
end Go.Proofs.YtehakhplglhkdaaGreatDoor
