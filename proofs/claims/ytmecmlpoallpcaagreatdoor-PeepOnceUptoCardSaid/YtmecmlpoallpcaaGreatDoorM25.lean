/- number.ints: faults; number.binary, number.Binary of two ints or flags. (Printed by gen_peepnum.py out of the Number seat's texts.) -/
import Derived.Test.YtmecmlpoallpcaaGreatDoorM24
import Derived.Deep.RegionHeld3
namespace Go.Proofs.YtmecmlpoallpcaaGreatDoor
set_option linter.unusedVariables false
open Go.RowKit

theorem below_drew {B : Nat} {a w : World} (h : Below B a w) : Below B a w.drew := ⟨h.os, h.tape, h.output, h.size, h.block⟩
theorem below_of_grow {X w2 : World} {k : Nat} {os : Array Obj} (h : w2 = Go.Sort.grow (X.drewN k) os) : Below X.heap.size X w2 := by
  subst h; exact Lib.below_grow _ _ (Nat.le_refl _) k os
theorem set11 {w : World} {g : Nat} {o0 o1 o2 o3 o4 o5 o6 o7 o8 o9 o10 v0 v1 v2 v3 v4 v5 v6 v7 v8 v9 v10 : Value} (h : Row w g 131 [o0, o1, o2, o3, o4, o5, o6, o7, o8, o9, o10]) :
    Row (((((((((((w.setCell ⟨g, 0, none⟩ v0).setCell ⟨g, 1, none⟩ v1).setCell ⟨g, 2, none⟩ v2).setCell ⟨g, 3, none⟩ v3).setCell ⟨g, 4, none⟩ v4).setCell ⟨g, 5, none⟩ v5).setCell ⟨g, 6, none⟩ v6).setCell ⟨g, 7, none⟩ v7).setCell ⟨g, 8, none⟩ v8).setCell ⟨g, 9, none⟩ v9).setCell ⟨g, 10, none⟩ v10) g 131 [v0, v1, v2, v3, v4, v5, v6, v7, v8, v9, v10] := by
  have := ((((((((((h.set 0 v0).set 1 v1).set 2 v2).set 3 v3).set 4 v4).set 5 v5).set 6 v6).set 7 v7).set 8 v8).set 9 v9).set 10 v10
  simpa using this
theorem far11 {w : World} {g k : Nat} {t : TypeId} {cs : List Value} {v0 v1 v2 v3 v4 v5 v6 v7 v8 v9 v10 : Value} (h : Row w k t cs) (hk : k ≠ g) : Row (((((((((((w.setCell ⟨g, 0, none⟩ v0).setCell ⟨g, 1, none⟩ v1).setCell ⟨g, 2, none⟩ v2).setCell ⟨g, 3, none⟩ v3).setCell ⟨g, 4, none⟩ v4).setCell ⟨g, 5, none⟩ v5).setCell ⟨g, 6, none⟩ v6).setCell ⟨g, 7, none⟩ v7).setCell ⟨g, 8, none⟩ v8).setCell ⟨g, 9, none⟩ v9).setCell ⟨g, 10, none⟩ v10) k t cs :=
  (((((((((((h.setFar hk _).setFar hk _).setFar hk _).setFar hk _).setFar hk _).setFar hk _).setFar hk _).setFar hk _).setFar hk _).setFar hk _).setFar hk _)
theorem below11 {a w : World} {g B : Nat} {v0 v1 v2 v3 v4 v5 v6 v7 v8 v9 v10 : Value} (h : Below B a w) (hk : B ≤ g) : Below B a (((((((((((w.setCell ⟨g, 0, none⟩ v0).setCell ⟨g, 1, none⟩ v1).setCell ⟨g, 2, none⟩ v2).setCell ⟨g, 3, none⟩ v3).setCell ⟨g, 4, none⟩ v4).setCell ⟨g, 5, none⟩ v5).setCell ⟨g, 6, none⟩ v6).setCell ⟨g, 7, none⟩ v7).setCell ⟨g, 8, none⟩ v8).setCell ⟨g, 9, none⟩ v9).setCell ⟨g, 10, none⟩ v10) :=
  (((((((((((h.setCell hk _).setCell hk _).setCell hk _).setCell hk _).setCell hk _).setCell hk _).setCell hk _).setCell hk _).setCell hk _).setCell hk _).setCell hk _)
def sCount : ByteArray := ⟨#[99, 111, 117, 110, 116]⟩
def sDivide : ByteArray := ⟨#[100, 105, 118, 105, 100, 101]⟩
theorem i_div0 (t s : ByteArray) (n f ro rf rl rc : Int) (pa ia : Option Addr) (pn pc iN ic : Nat) (s2 : ByteArray) (n2 f2 ro2 rf2 rl2 rc2 : Int) (pa2 ia2 : Option Addr) (pn2 pc2 iN2 ic2 : Nat) (w : World) : Calls Tryz.prog 188 #[.string ⟨#[47]⟩, (Dat.mk 2 t n f s ro rf rl rc pa pn pc ia iN ic).val, (Dat.mk 2 t 0 f2 s2 ro2 rf2 rl2 rc2 pa2 pn2 pc2 ia2 iN2 ic2).val] w fun e w' => ∃ v, e = .returned (.tuple #[zeroD.val, .bool false, v]) ∧ IsFault w w' v sDivide ⟨#[]⟩ ∧ Below w.heap.size w w' := by
  unfold zeroD mk Dat.val
  go_enter Tryz.func188, Tryz.ntmps188
  go_wp2_with fail
  go_quiet (fail)
  go_wp2_with (first
    | (go_at_call 184; refine (fault_any _ _ _).mono ?_; rintro en w2 ⟨g, rfl, hg, hr, hb⟩
       have hR2 : Hid (Row w2 (w.heap.size + 1 + 1) 131 zeroC) := (Row.drewN (row_at2 w _ _ 131 zeroC) _).below hb (by simp)
       have hB2 : Hid (Below w.heap.size w w2) := below_more (below_drewN (below3 w _ _ _) _) hb (by simp; omega)
       have hF2 := Lib.hid hr
       have hgs : w.heap.size + 1 + 1 < g := by simp at hg; omega
       clear hr hb hg)
    | (have ord := hB2.out.size; refine put_dat (.tmp 6) (.tmp 55) (w.heap.size + 1 + 1) zeroC zeroD.cells w2 rfl rfl rfl rfl hR2.out rfl rfl rfl ?_; intro w5 hr5 hb5 hf5
       have hB5 := Lib.hid (hB2.out.trans (hb5 _ (by omega)))
       have hR5 := Lib.hid hr5
       have hF5 : Hid (Row w5 g 139 [.string sDivide, .string ⟨#[]⟩]) := (hf5 g (by omega)).trans hF2.out
       clear ord hB2 hR2 hb5 hr5 hf5 hF2))
  refine bodyPost_ret (ret_ctt rfl _ _ (w.heap.size + 1 + 1) _ rfl hR5.out rfl) rfl ⟨_, rfl, ⟨g, rfl, by omega, hF5.out⟩, hB5.out⟩
theorem i_rem0 (t s : ByteArray) (n f ro rf rl rc : Int) (pa ia : Option Addr) (pn pc iN ic : Nat) (s2 : ByteArray) (n2 f2 ro2 rf2 rl2 rc2 : Int) (pa2 ia2 : Option Addr) (pn2 pc2 iN2 ic2 : Nat) (w : World) : Calls Tryz.prog 188 #[.string ⟨#[37]⟩, (Dat.mk 2 t n f s ro rf rl rc pa pn pc ia iN ic).val, (Dat.mk 2 t 0 f2 s2 ro2 rf2 rl2 rc2 pa2 pn2 pc2 ia2 iN2 ic2).val] w fun e w' => ∃ v, e = .returned (.tuple #[zeroD.val, .bool false, v]) ∧ IsFault w w' v sDivide ⟨#[]⟩ ∧ Below w.heap.size w w' := by
  unfold zeroD mk Dat.val
  go_enter Tryz.func188, Tryz.ntmps188
  go_wp2_with fail
  go_quiet (fail)
  go_wp2_with (first
    | (go_at_call 184; refine (fault_any _ _ _).mono ?_; rintro en w2 ⟨g, rfl, hg, hr, hb⟩
       have hR2 : Hid (Row w2 (w.heap.size + 1 + 1) 131 zeroC) := (Row.drewN (row_at2 w _ _ 131 zeroC) _).below hb (by simp)
       have hB2 : Hid (Below w.heap.size w w2) := below_more (below_drewN (below3 w _ _ _) _) hb (by simp; omega)
       have hF2 := Lib.hid hr
       have hgs : w.heap.size + 1 + 1 < g := by simp at hg; omega
       clear hr hb hg)
    | (have ord := hB2.out.size; refine put_dat (.tmp 6) (.tmp 55) (w.heap.size + 1 + 1) zeroC zeroD.cells w2 rfl rfl rfl rfl hR2.out rfl rfl rfl ?_; intro w5 hr5 hb5 hf5
       have hB5 := Lib.hid (hB2.out.trans (hb5 _ (by omega)))
       have hR5 := Lib.hid hr5
       have hF5 : Hid (Row w5 g 139 [.string sDivide, .string ⟨#[]⟩]) := (hf5 g (by omega)).trans hF2.out
       clear ord hB2 hR2 hb5 hr5 hf5 hF2))
  refine bodyPost_ret (ret_ctt rfl _ _ (w.heap.size + 1 + 1) _ rfl hR5.out rfl) rfl ⟨_, rfl, ⟨g, rfl, by omega, hF5.out⟩, hB5.out⟩
theorem i_shln (t s : ByteArray) (n f ro rf rl rc : Int) (pa ia : Option Addr) (pn pc iN ic : Nat) (s2 : ByteArray) (n2 f2 ro2 rf2 rl2 rc2 : Int) (pa2 ia2 : Option Addr) (pn2 pc2 iN2 ic2 : Nat) (w : World) (h2 : -9223372036854775808 ≤ n2 ∧ n2 ≤ 9223372036854775807) (hb : n2 < 0) (htab : Lib.TabIs Tryz.prog w "internal/strconv.uint64pow10" .u64 Lib.pow10Tab) : Calls Tryz.prog 188 #[.string ⟨#[60, 60]⟩, (Dat.mk 2 t n f s ro rf rl rc pa pn pc ia iN ic).val, (Dat.mk 2 t n2 f2 s2 ro2 rf2 rl2 rc2 pa2 pn2 pc2 ia2 iN2 ic2).val] w fun e w' => ∃ v, e = .returned (.tuple #[zeroD.val, .bool false, v]) ∧ IsFault w w' v sCount ⟨(Lib.itoa n2).toArray⟩ ∧ Below w.heap.size w w' := by
  have HTAB := Lib.hid (Lib.tabBelow_of_tabIs htab)
  have HI := Lib.hid fun W (hW : Below w.heap.size w W) => Tryz.strconv_Itoa n2 h2.1 (by omega) W (HTAB.out W hW)
  have c1 : decide (n2 < 0) = true := decide_eq_true hb
  generalize (⟨(Lib.itoa n2).toArray⟩ : ByteArray) = m at *
  clear h2 htab HTAB
  unfold zeroD mk Dat.val
  go_enter Tryz.func188, Tryz.ntmps188
  go_wp2_with fail
  go_quiet (fail)
  go_wp2_with (first
    | (go_at_call 66; refine (HI.out _ ?hW).mono ?_
       case hW => exact below_drewN (below3 w _ _ _) _
       rintro en w2 ⟨rfl, k, os, hw⟩
       have hb2 := below_of_grow hw
       have R2 : Hid (Row w2 (w.heap.size + 1 + 1) 131 zeroC) := (Row.drewN (row_at2 w _ _ 131 zeroC) _).below hb2 (by simp)
       have B2 : Hid (Below w.heap.size w w2) := below_more (below_drewN (below3 w _ _ _) _) hb2 (by simp <;> omega)
       clear hw hb2 HI)
    | (go_at_call 184; refine (fault_any _ _ _).mono ?_; rintro en w3 ⟨g, rfl, hg, hr, hb3⟩
       have R3 : Hid (Row w3 (w.heap.size + 1 + 1) 131 zeroC) := R2.out.below hb3 R2.out.lt
       have B3 : Hid (Below w.heap.size w w3) := below_more B2.out hb3 B2.out.size
       have F3 := Lib.hid hr
       have hgs : Hid (w.heap.size + 1 + 1 < g) := Lib.hid (by have := R2.out.lt; omega)
       clear hr hb3 hg R2 B2)
    | (have ord := B3.out.size; refine put_dat (.tmp 6) (.tmp 92) (w.heap.size + 1 + 1) zeroC zeroD.cells _ rfl rfl rfl rfl R3.out rfl rfl rfl ?_; intro w5 hr5 hb5 hf5
       have B5 : Hid (Below w.heap.size w w5) := B3.out.trans (hb5 _ (by omega))
       have R5 := Lib.hid hr5
       have F5 : Hid (Row w5 g 139 _) := (hf5 g (by have := hgs.out; omega)).trans F3.out
       clear ord B3 R3 hb5 hr5 hf5 F3))
  exact bodyPost_ret (ret_ctt rfl _ _ (w.heap.size + 1 + 1) _ rfl R5.out rfl) rfl ⟨_, rfl, ⟨g, rfl, by have := hgs.out; omega, F5.out⟩, B5.out⟩
theorem i_shrn (t s : ByteArray) (n f ro rf rl rc : Int) (pa ia : Option Addr) (pn pc iN ic : Nat) (s2 : ByteArray) (n2 f2 ro2 rf2 rl2 rc2 : Int) (pa2 ia2 : Option Addr) (pn2 pc2 iN2 ic2 : Nat) (w : World) (h2 : -9223372036854775808 ≤ n2 ∧ n2 ≤ 9223372036854775807) (hb : n2 < 0) (htab : Lib.TabIs Tryz.prog w "internal/strconv.uint64pow10" .u64 Lib.pow10Tab) : Calls Tryz.prog 188 #[.string ⟨#[62, 62]⟩, (Dat.mk 2 t n f s ro rf rl rc pa pn pc ia iN ic).val, (Dat.mk 2 t n2 f2 s2 ro2 rf2 rl2 rc2 pa2 pn2 pc2 ia2 iN2 ic2).val] w fun e w' => ∃ v, e = .returned (.tuple #[zeroD.val, .bool false, v]) ∧ IsFault w w' v sCount ⟨(Lib.itoa n2).toArray⟩ ∧ Below w.heap.size w w' := by
  have HTAB := Lib.hid (Lib.tabBelow_of_tabIs htab)
  have HI := Lib.hid fun W (hW : Below w.heap.size w W) => Tryz.strconv_Itoa n2 h2.1 (by omega) W (HTAB.out W hW)
  have c1 : decide (n2 < 0) = true := decide_eq_true hb
  generalize (⟨(Lib.itoa n2).toArray⟩ : ByteArray) = m at *
  clear h2 htab HTAB
  unfold zeroD mk Dat.val
  go_enter Tryz.func188, Tryz.ntmps188
  go_wp2_with fail
  go_quiet (fail)
  go_wp2_with (first
    | (go_at_call 66; refine (HI.out _ ?hW).mono ?_
       case hW => exact below_drewN (below3 w _ _ _) _
       rintro en w2 ⟨rfl, k, os, hw⟩
       have hb2 := below_of_grow hw
       have R2 : Hid (Row w2 (w.heap.size + 1 + 1) 131 zeroC) := (Row.drewN (row_at2 w _ _ 131 zeroC) _).below hb2 (by simp)
       have B2 : Hid (Below w.heap.size w w2) := below_more (below_drewN (below3 w _ _ _) _) hb2 (by simp <;> omega)
       clear hw hb2 HI)
    | (go_at_call 184; refine (fault_any _ _ _).mono ?_; rintro en w3 ⟨g, rfl, hg, hr, hb3⟩
       have R3 : Hid (Row w3 (w.heap.size + 1 + 1) 131 zeroC) := R2.out.below hb3 R2.out.lt
       have B3 : Hid (Below w.heap.size w w3) := below_more B2.out hb3 B2.out.size
       have F3 := Lib.hid hr
       have hgs : Hid (w.heap.size + 1 + 1 < g) := Lib.hid (by have := R2.out.lt; omega)
       clear hr hb3 hg R2 B2)
    | (have ord := B3.out.size; refine put_dat (.tmp 6) (.tmp 92) (w.heap.size + 1 + 1) zeroC zeroD.cells _ rfl rfl rfl rfl R3.out rfl rfl rfl ?_; intro w5 hr5 hb5 hf5
       have B5 : Hid (Below w.heap.size w w5) := B3.out.trans (hb5 _ (by omega))
       have R5 := Lib.hid hr5
       have F5 : Hid (Row w5 g 139 _) := (hf5 g (by have := hgs.out; omega)).trans F3.out
       clear ord B3 R3 hb5 hr5 hf5 F3))
  exact bodyPost_ret (ret_ctt rfl _ _ (w.heap.size + 1 + 1) _ rfl R5.out rfl) rfl ⟨_, rfl, ⟨g, rfl, by have := hgs.out; omega, F5.out⟩, B5.out⟩
theorem b43_ok (op : ByteArray) (t s : ByteArray) (n f ro rf rl rc : Int) (pa ia : Option Addr) (pn pc iN ic : Nat) (s2 : ByteArray) (n2 f2 ro2 rf2 rl2 rc2 : Int) (pa2 ia2 : Option Addr) (pn2 pc2 iN2 ic2 : Nat) (d : Dat) (is : Bool) (w : World)
    (hf : ∀ w, Calls Tryz.prog 188 #[.string op, (Dat.mk 2 t n f s ro rf rl rc pa pn pc ia iN ic).val, (Dat.mk 2 t n2 f2 s2 ro2 rf2 rl2 rc2 pa2 pn2 pc2 ia2 iN2 ic2).val] w fun e w' => e = .returned (.tuple #[d.val, .bool is, .nilIface]) ∧ Below w.heap.size w w') :
    Calls Tryz.prog 156 #[.string op, (Dat.mk 2 t n f s ro rf rl rc pa pn pc ia iN ic).val, (Dat.mk 2 t n2 f2 s2 ro2 rf2 rl2 rc2 pa2 pn2 pc2 ia2 iN2 ic2).val] w fun e w' => e = .returned (.tuple #[d.val, .bool is, .nilIface]) ∧ Below w.heap.size w w' := by
  have HF := Lib.hid hf
  clear hf
  unfold Dat.val at *
  go_enter Tryz.func156, Tryz.ntmps156
  go_wp2_with (first
    | (go_at_call 188; refine (HF.out _).mono ?_; rintro en w2 ⟨rfl, hb⟩
       have R2 : Hid (Row w2 (w.heap.size + 1 + 1) 131 zeroC) := (row_at2 w _ _ 131 zeroC).below hb (by simp)
       have B2 : Hid (Below w.heap.size w w2) := below_more (below3 w _ _ _) hb (by simp <;> omega)
       clear hb HF)
    | (refine put_dat (.tmp 6) (.tmp 22) (w.heap.size + 1 + 1) zeroC d.cells _ rfl rfl rfl rfl R2.out rfl rfl rfl ?_; intro w5 hr5 hb5 hf5
       have B5 : Hid (Below w.heap.size w w5) := B2.out.trans (hb5 _ (by omega))
       have R5 := Lib.hid hr5
       clear B2 R2 hb5 hr5 hf5))
  exact bodyPost_ret (ret_ctt rfl _ _ (w.heap.size + 1 + 1) _ rfl R5.out rfl) rfl ⟨rfl, B5.out⟩
theorem b43_err (op x y : ByteArray) (t s : ByteArray) (n f ro rf rl rc : Int) (pa ia : Option Addr) (pn pc iN ic : Nat) (s2 : ByteArray) (n2 f2 ro2 rf2 rl2 rc2 : Int) (pa2 ia2 : Option Addr) (pn2 pc2 iN2 ic2 : Nat) (w : World)
    (hf : ∀ W, Below w.heap.size w W → Calls Tryz.prog 188 #[.string op, (Dat.mk 2 t n f s ro rf rl rc pa pn pc ia iN ic).val, (Dat.mk 2 t n2 f2 s2 ro2 rf2 rl2 rc2 pa2 pn2 pc2 ia2 iN2 ic2).val] W fun e w' => ∃ v, e = .returned (.tuple #[zeroD.val, .bool false, v]) ∧ IsFault W w' v x y ∧ Below W.heap.size W w') :
    Calls Tryz.prog 156 #[.string op, (Dat.mk 2 t n f s ro rf rl rc pa pn pc ia iN ic).val, (Dat.mk 2 t n2 f2 s2 ro2 rf2 rl2 rc2 pa2 pn2 pc2 ia2 iN2 ic2).val] w fun e w' => ∃ v, e = .returned (.tuple #[zeroD.val, .bool false, v]) ∧ IsFault w w' v x y ∧ Below w.heap.size w w' := by
  have HF := Lib.hid hf
  clear hf
  unfold zeroD mk Dat.val at *
  go_enter Tryz.func156, Tryz.ntmps156
  go_wp2_with (first
    | (go_at_call 188; refine (HF.out _ ?hW).mono ?_
       case hW => exact below3 w _ _ _
       rintro en w2 ⟨v, rfl, ⟨g, rfl, hg, hr⟩, hb⟩
       have R2 : Hid (Row w2 (w.heap.size + 1 + 1) 131 zeroC) := (row_at2 w _ _ 131 zeroC).below hb (by simp)
       have B2 : Hid (Below w.heap.size w w2) := below_more (below3 w _ _ _) hb (by simp <;> omega)
       have F2 := Lib.hid hr
       have hgs : Hid (w.heap.size + 1 + 1 < g) := Lib.hid (by simp at hg; omega)
       clear hb HF hr hg)
    | (refine put_dat (.tmp 6) (.tmp 22) (w.heap.size + 1 + 1) zeroC zeroD.cells _ rfl rfl rfl rfl R2.out rfl rfl rfl ?_; intro w5 hr5 hb5 hf5
       have B5 : Hid (Below w.heap.size w w5) := B2.out.trans (hb5 _ (by omega))
       have R5 := Lib.hid hr5
       have F5 : Hid (Row w5 g 139 [.string x, .string y]) := (hf5 g (by have := hgs.out; omega)).trans F2.out
       clear B2 R2 hb5 hr5 hf5 F2))
  exact bodyPost_ret (ret_ctt rfl _ _ (w.heap.size + 1 + 1) _ rfl R5.out rfl) rfl ⟨_, rfl, ⟨g, rfl, by have := hgs.out; omega, F5.out⟩, B5.out⟩
theorem b43_none (op : ByteArray) (k : Int) (t s : ByteArray) (n f ro rf rl rc : Int) (pa ia : Option Addr) (pn pc iN ic : Nat) (s2 : ByteArray) (n2 f2 ro2 rf2 rl2 rc2 : Int) (pa2 ia2 : Option Addr) (pn2 pc2 iN2 ic2 : Nat) (w : World) (h2 : (k == 2) = false) (h3 : (k == 3) = false) (h4 : (k == 4) = false) :
    Calls Tryz.prog 156 #[.string op, (Dat.mk k t n f s ro rf rl rc pa pn pc ia iN ic).val, (Dat.mk k t n2 f2 s2 ro2 rf2 rl2 rc2 pa2 pn2 pc2 ia2 iN2 ic2).val] w fun e w' => e = .returned (.tuple #[zeroD.val, .bool false, .nilIface]) ∧ Below w.heap.size w w' := by
  unfold zeroD mk Dat.val
  go_enter Tryz.func156, Tryz.ntmps156
  go_wp2
  go_returns
  exact ⟨rfl, by go_grown⟩
theorem bin17_ok (op : ByteArray) (C E d : Dat) (hk : E.k = C.k) (ht : E.t = C.t) (w : World)
    (hf : ∀ w, Calls Tryz.prog 156 #[.string op, C.val, E.val] w fun e w' => e = .returned (.tuple #[d.val, .bool true, .nilIface]) ∧ Below w.heap.size w w') :
    Calls Tryz.prog 121 #[.string op, C.val, E.val] w fun e w' => e = .returned (.tuple #[d.val, .nilIface]) ∧ Below w.heap.size w w' := by
  have HF := Lib.hid hf
  clear hf
  unfold Dat.val at HF
  rw [hk, ht] at HF
  unfold Dat.val
  rw [hk, ht]
  clear hk ht
  go_enter Tryz.func121, Tryz.ntmps121
  go_wp2_with (first
    | (go_at_call 156; refine (HF.out _).mono ?_
       rintro en w2 ⟨rfl, hb⟩
       have hR2 : Hid (Row w2 (w.heap.size + 1 + 1) 131 zeroC) := (row_at2 w _ _ 131 zeroC).below hb (by simp)
       have hB2 : Hid (Below w.heap.size w w2) := below_more (below3 w _ _ _) hb (by simp <;> omega)
       clear hb HF)
    | (refine put_dat (.tmp 6) (.tmp 36) (w.heap.size + 1 + 1) zeroC d.cells _ rfl rfl rfl rfl (hR2.out.alloc _) rfl rfl rfl ?_; intro w5 hr5 hb5 hf5
       have hB5 : Hid (Below w.heap.size w w5) := (below_more hB2.out (below1 _ _) hB2.out.size).trans (hb5 _ (by omega))
       have hR5 := Lib.hid hr5
       clear hB2 hR2 hb5 hr5))
  exact bodyPost_ret (ret_ct rfl _ _ (w.heap.size + 1 + 1) _ rfl hR5.out rfl) rfl ⟨rfl, hB5.out⟩
theorem bin17_nek (op t t2 s s2 : ByteArray) (k k2 n f ro rf rl rc n2 f2 ro2 rf2 rl2 rc2 : Int) (pa ia pa2 ia2 : Option Addr) (pn pc iN ic pn2 pc2 iN2 ic2 : Nat) (w : World) (hs : op.size + t.size + t2.size ≤ 3000000) (hk : (k == k2) = false) :
    Calls Tryz.prog 121 #[.string op, (Dat.mk k t n f s ro rf rl rc pa pn pc ia iN ic).val, (Dat.mk k2 t2 n2 f2 s2 ro2 rf2 rl2 rc2 pa2 pn2 pc2 ia2 iN2 ic2).val] w fun e w' => ∃ v, e = .returned (.tuple #[zeroD.val, v]) ∧ IsFault w w' v sOperand (op ++ ⟨#[32]⟩ ++ nameOf (Dat.mk k t n f s ro rf rl rc pa pn pc ia iN ic) ++ ⟨#[32]⟩ ++ nameOf (Dat.mk k2 t2 n2 f2 s2 ro2 rf2 rl2 rc2 pa2 pn2 pc2 ia2 iN2 ic2)) ∧ Below w.heap.size w w' := by
  have hn1 := fun w => name_any (Dat.mk k t n f s ro rf rl rc pa pn pc ia iN ic) w (by simp only; omega)
  have hn2 := fun w => name_any (Dat.mk k2 t2 n2 f2 s2 ro2 rf2 rl2 rc2 pa2 pn2 pc2 ia2 iN2 ic2) w (by simp only; omega)
  have hz := name_size (Dat.mk k t n f s ro rf rl rc pa pn pc ia iN ic)
  have hz2 := name_size (Dat.mk k2 t2 n2 f2 s2 ro2 rf2 rl2 rc2 pa2 pn2 pc2 ia2 iN2 ic2)
  generalize nameOf (Dat.mk k t n f s ro rf rl rc pa pn pc ia iN ic) = nm at *
  generalize nameOf (Dat.mk k2 t2 n2 f2 s2 ro2 rf2 rl2 rc2 pa2 pn2 pc2 ia2 iN2 ic2) = nm2 at *
  have hs2 : Hid (op.size + nm.size + nm2.size ≤ 4000000) := Lib.hid (by simp only at hz hz2; omega)
  clear hz hz2 hs
  unfold Dat.val at *
  go_enter Tryz.func121, Tryz.ntmps121
  go_wp2_with fail
  obtain ⟨w1, RA, RB, RC, HB, e⟩ : ∃ w1, Row w1 w.heap.size 131 [.int .i64 k, .string t, .int .i64 n, .int .u64 f, .string s, .int .i64 ro, .int .i64 rf, .int .i64 rl, .int .i64 rc, .slice pa pn pc, .slice ia iN ic] ∧ Row w1 (w.heap.size + 1) 131 [.int .i64 k2, .string t2, .int .i64 n2, .int .u64 f2, .string s2, .int .i64 ro2, .int .i64 rf2, .int .i64 rl2, .int .i64 rc2, .slice pa2 pn2 pc2, .slice ia2 iN2 ic2] ∧ Row w1 (w.heap.size + 1 + 1) 131 [.int .i64 0, .string ⟨#[]⟩, .int .i64 0, .int .u64 0, .string ⟨#[]⟩, .int .i64 0, .int .i64 0, .int .i64 0, .int .i64 0, .slice none 0 0, .slice none 0 0] ∧ Below w.heap.size w w1 ∧ (((w.alloc (.cells [.int .i64 k, .string t, .int .i64 n, .int .u64 f, .string s, .int .i64 ro, .int .i64 rf, .int .i64 rl, .int .i64 rc, .slice pa pn pc, .slice ia iN ic].toArray 131)).alloc (.cells [.int .i64 k2, .string t2, .int .i64 n2, .int .u64 f2, .string s2, .int .i64 ro2, .int .i64 rf2, .int .i64 rl2, .int .i64 rc2, .slice pa2 pn2 pc2, .slice ia2 iN2 ic2].toArray 131)).alloc (.cells [.int .i64 0, .string ⟨#[]⟩, .int .i64 0, .int .u64 0, .string ⟨#[]⟩, .int .i64 0, .int .i64 0, .int .i64 0, .int .i64 0, .slice none 0 0, .slice none 0 0].toArray 131)) = w1 :=
    ⟨_, ((Row.made w 131 _).alloc _).alloc _, (row_atOne w _ 131 _).alloc _, row_at2 w _ _ 131 _, below3 w _ _ _, rfl⟩
  rw [e]
  clear e
  have HN1 := Lib.hid hn1
  have HN2 := Lib.hid hn2
  clear hn1 hn2
  obtain ⟨k1_0, k1_1, k1_2, k1_3, k1_4, k1_5, k1_6, k1_7, k1_8, k1_9, k1_10, k1f⟩ := row11 RA
  obtain ⟨k2_0, k2_1, k2_2, k2_3, k2_4, k2_5, k2_6, k2_7, k2_8, k2_9, k2_10, k2f⟩ := row11 RB
  replace RA := Lib.hid RA
  replace RB := Lib.hid RB
  replace RC := Lib.hid RC
  replace HB := Lib.hid HB
  have d1 : w.heap.size + 1 + 1 ≠ w.heap.size := by omega
  have d2 : w.heap.size + 1 + 1 ≠ w.heap.size + 1 := by omega
  have d3 : w.heap.size ≠ w.heap.size + 1 + 1 := by omega
  have d4 : w.heap.size + 1 ≠ w.heap.size + 1 + 1 := by omega
  go_region_held3 (fun w' => w'.cell? ⟨w.heap.size, 0, none⟩ = some (.int .i64 k) ∧ w'.cell? ⟨w.heap.size, 1, none⟩ = some (.string t) ∧ w'.cell? ⟨w.heap.size, 2, none⟩ = some (.int .i64 n) ∧ w'.cell? ⟨w.heap.size, 3, none⟩ = some (.int .u64 f) ∧ w'.cell? ⟨w.heap.size, 4, none⟩ = some (.string s) ∧ w'.cell? ⟨w.heap.size, 5, none⟩ = some (.int .i64 ro) ∧ w'.cell? ⟨w.heap.size, 6, none⟩ = some (.int .i64 rf) ∧ w'.cell? ⟨w.heap.size, 7, none⟩ = some (.int .i64 rl) ∧ w'.cell? ⟨w.heap.size, 8, none⟩ = some (.int .i64 rc) ∧ w'.cell? ⟨w.heap.size, 9, none⟩ = some (.slice pa pn pc) ∧ w'.cell? ⟨w.heap.size, 10, none⟩ = some (.slice ia iN ic) ∧ w'.cell? ⟨w.heap.size + 1, 0, none⟩ = some (.int .i64 k2) ∧ w'.cell? ⟨w.heap.size + 1, 1, none⟩ = some (.string t2) ∧ w'.cell? ⟨w.heap.size + 1, 2, none⟩ = some (.int .i64 n2) ∧ w'.cell? ⟨w.heap.size + 1, 3, none⟩ = some (.int .u64 f2) ∧ w'.cell? ⟨w.heap.size + 1, 4, none⟩ = some (.string s2) ∧ w'.cell? ⟨w.heap.size + 1, 5, none⟩ = some (.int .i64 ro2) ∧ w'.cell? ⟨w.heap.size + 1, 6, none⟩ = some (.int .i64 rf2) ∧ w'.cell? ⟨w.heap.size + 1, 7, none⟩ = some (.int .i64 rl2) ∧ w'.cell? ⟨w.heap.size + 1, 8, none⟩ = some (.int .i64 rc2) ∧ w'.cell? ⟨w.heap.size + 1, 9, none⟩ = some (.slice pa2 pn2 pc2) ∧ w'.cell? ⟨w.heap.size + 1, 10, none⟩ = some (.slice ia2 iN2 ic2)) (first | go_keep | exact ⟨k1_0, k1_1, k1_2, k1_3, k1_4, k1_5, k1_6, k1_7, k1_8, k1_9, k1_10, k2_0, k2_1, k2_2, k2_3, k2_4, k2_5, k2_6, k2_7, k2_8, k2_9, k2_10⟩) (first | (go_at_call 152; (with_reducible refine (HN1.out _).mono ?_); rintro en w2 ⟨rfl, hb⟩; have RAx := RA.out.drew.below hb RA.out.drew.lt; have RBx := RB.out.drew.below hb RB.out.drew.lt; have RCx := RC.out.drew.below hb RC.out.drew.lt; have HBx : Below w.heap.size w w2 := below_more (below_drew HB.out) hb HB.out.size; clear RA RB RC HB HN1 hb; have RA := Lib.hid RAx; have RB := Lib.hid RBx; have RC := Lib.hid RCx; have HB := Lib.hid HBx; clear RAx RBx RCx HBx; obtain ⟨k1_0, k1_1, k1_2, k1_3, k1_4, k1_5, k1_6, k1_7, k1_8, k1_9, k1_10, k1f⟩ := row11 RA.out; obtain ⟨k2_0, k2_1, k2_2, k2_3, k2_4, k2_5, k2_6, k2_7, k2_8, k2_9, k2_10, k2f⟩ := row11 RB.out) | (go_at_call 152; (with_reducible refine (HN2.out _).mono ?_); rintro en w2 ⟨rfl, hb⟩; have RAx := RA.out.drew.below hb RA.out.drew.lt; have RBx := RB.out.drew.below hb RB.out.drew.lt; have RCx := RC.out.drew.below hb RC.out.drew.lt; have HBx : Below w.heap.size w w2 := below_more (below_drew HB.out) hb HB.out.size; clear RA RB RC HB HN2 hb; have RA := Lib.hid RAx; have RB := Lib.hid RBx; have RC := Lib.hid RCx; have HB := Lib.hid HBx; clear RAx RBx RCx HBx; obtain ⟨k1_0, k1_1, k1_2, k1_3, k1_4, k1_5, k1_6, k1_7, k1_8, k1_9, k1_10, k1f⟩ := row11 RA.out; obtain ⟨k2_0, k2_1, k2_2, k2_3, k2_4, k2_5, k2_6, k2_7, k2_8, k2_9, k2_10, k2f⟩ := row11 RB.out) | (go_at_call 152; (with_reducible refine (HN1.out _).mono ?_); rintro en w3 ⟨rfl, hb⟩; have RAx := RA.out.below hb RA.out.lt; have RBx := RB.out.below hb RB.out.lt; have RCx := RC.out.below hb RC.out.lt; have HBx : Below w.heap.size w w3 := below_more (HB.out) hb HB.out.size; clear RA RB RC HB HN1 hb; have RA := Lib.hid RAx; have RB := Lib.hid RBx; have RC := Lib.hid RCx; have HB := Lib.hid HBx; clear RAx RBx RCx HBx; obtain ⟨k1_0, k1_1, k1_2, k1_3, k1_4, k1_5, k1_6, k1_7, k1_8, k1_9, k1_10, k1f⟩ := row11 RA.out; obtain ⟨k2_0, k2_1, k2_2, k2_3, k2_4, k2_5, k2_6, k2_7, k2_8, k2_9, k2_10, k2f⟩ := row11 RB.out) | (go_at_call 152; (with_reducible refine (HN2.out _).mono ?_); rintro en w3 ⟨rfl, hb⟩; have RAx := RA.out.below hb RA.out.lt; have RBx := RB.out.below hb RB.out.lt; have RCx := RC.out.below hb RC.out.lt; have HBx : Below w.heap.size w w3 := below_more (HB.out) hb HB.out.size; clear RA RB RC HB HN2 hb; have RA := Lib.hid RAx; have RB := Lib.hid RBx; have RC := Lib.hid RCx; have HB := Lib.hid HBx; clear RAx RBx RCx HBx; obtain ⟨k1_0, k1_1, k1_2, k1_3, k1_4, k1_5, k1_6, k1_7, k1_8, k1_9, k1_10, k1f⟩ := row11 RA.out; obtain ⟨k2_0, k2_1, k2_2, k2_3, k2_4, k2_5, k2_6, k2_7, k2_8, k2_9, k2_10, k2f⟩ := row11 RB.out) | (go_at_call 151; refine (operand3 w3.heap.size _ op nm nm2 _ (Row.made w3 _ [.string op, .string nm, .string nm2]) hs2.out).mono ?_; rintro en w4 ⟨v, rfl, ⟨g, rfl, hg, hr⟩, hb⟩; have RAx := (RA.out.alloc _).below hb (RA.out.alloc _).lt; have RBx := (RB.out.alloc _).below hb (RB.out.alloc _).lt; have RCx := (RC.out.alloc _).below hb (RC.out.alloc _).lt; have HBx : Below w.heap.size w w4 := below_more (HB.out.alloc HB.out.size _) hb (by have := HB.out.size; simp <;> omega); have HG4 : Hid (w.heap.size + 1 + 1 < g) := Lib.hid (by have := RC.out.lt; simp at hg; omega); have HF4 := Lib.hid hr; clear RA RB RC HB hb hr hg; have RC := Lib.hid RCx; have HB := Lib.hid HBx; obtain ⟨k1_0, k1_1, k1_2, k1_3, k1_4, k1_5, k1_6, k1_7, k1_8, k1_9, k1_10, k1f⟩ := row11 RAx; obtain ⟨k2_0, k2_1, k2_2, k2_3, k2_4, k2_5, k2_6, k2_7, k2_8, k2_9, k2_10, k2f⟩ := row11 RBx; obtain ⟨c0, c1, c2, c3, c4, c5, c6, c7, c8, c9, c10, cf⟩ := row11 RC.out; clear RAx RBx RCx HBx))
  all_goals
    go_wp2
    exact bodyPost_ret (ret_ct rfl _ _ (w.heap.size + 1 + 1) _ rfl (set11 RC.out) rfl) rfl ⟨_, rfl, ⟨g, rfl, by have := HG4.out; omega, far11 HF4.out (by have := HG4.out; omega)⟩, below11 HB.out (by omega)⟩
theorem bin17_nety (op t t2 s s2 : ByteArray) (k n f ro rf rl rc n2 f2 ro2 rf2 rl2 rc2 : Int) (pa ia pa2 ia2 : Option Addr) (pn pc iN ic pn2 pc2 iN2 ic2 : Nat) (w : World) (hs : op.size + t.size + t2.size ≤ 3000000) (hk : (t.toList == t2.toList) = false) :
    Calls Tryz.prog 121 #[.string op, (Dat.mk k t n f s ro rf rl rc pa pn pc ia iN ic).val, (Dat.mk k t2 n2 f2 s2 ro2 rf2 rl2 rc2 pa2 pn2 pc2 ia2 iN2 ic2).val] w fun e w' => ∃ v, e = .returned (.tuple #[zeroD.val, v]) ∧ IsFault w w' v sOperand (op ++ ⟨#[32]⟩ ++ nameOf (Dat.mk k t n f s ro rf rl rc pa pn pc ia iN ic) ++ ⟨#[32]⟩ ++ nameOf (Dat.mk k t2 n2 f2 s2 ro2 rf2 rl2 rc2 pa2 pn2 pc2 ia2 iN2 ic2)) ∧ Below w.heap.size w w' := by
  have hn1 := fun w => name_any (Dat.mk k t n f s ro rf rl rc pa pn pc ia iN ic) w (by simp only; omega)
  have hn2 := fun w => name_any (Dat.mk k t2 n2 f2 s2 ro2 rf2 rl2 rc2 pa2 pn2 pc2 ia2 iN2 ic2) w (by simp only; omega)
  have hz := name_size (Dat.mk k t n f s ro rf rl rc pa pn pc ia iN ic)
  have hz2 := name_size (Dat.mk k t2 n2 f2 s2 ro2 rf2 rl2 rc2 pa2 pn2 pc2 ia2 iN2 ic2)
  generalize nameOf (Dat.mk k t n f s ro rf rl rc pa pn pc ia iN ic) = nm at *
  generalize nameOf (Dat.mk k t2 n2 f2 s2 ro2 rf2 rl2 rc2 pa2 pn2 pc2 ia2 iN2 ic2) = nm2 at *
  have hs2 : Hid (op.size + nm.size + nm2.size ≤ 4000000) := Lib.hid (by simp only at hz hz2; omega)
  clear hz hz2 hs
  unfold Dat.val at *
  go_enter Tryz.func121, Tryz.ntmps121
  go_wp2_with fail
  obtain ⟨w1, RA, RB, RC, HB, e⟩ : ∃ w1, Row w1 w.heap.size 131 [.int .i64 k, .string t, .int .i64 n, .int .u64 f, .string s, .int .i64 ro, .int .i64 rf, .int .i64 rl, .int .i64 rc, .slice pa pn pc, .slice ia iN ic] ∧ Row w1 (w.heap.size + 1) 131 [  .int .i64 k, .string t2, .int .i64 n2, .int .u64 f2, .string s2, .int .i64 ro2, .int .i64 rf2, .int .i64 rl2, .int .i64 rc2, .slice pa2 pn2 pc2, .slice ia2 iN2 ic2] ∧ Row w1 (w.heap.size + 1 + 1) 131 [.int .i64 0, .string ⟨#[]⟩, .int .i64 0, .int .u64 0, .string ⟨#[]⟩, .int .i64 0, .int .i64 0, .int .i64 0, .int .i64 0, .slice none 0 0, .slice none 0 0] ∧ Below w.heap.size w w1 ∧ (((w.alloc (.cells [.int .i64 k, .string t, .int .i64 n, .int .u64 f, .string s, .int .i64 ro, .int .i64 rf, .int .i64 rl, .int .i64 rc, .slice pa pn pc, .slice ia iN ic].toArray 131)).alloc (.cells [  .int .i64 k, .string t2, .int .i64 n2, .int .u64 f2, .string s2, .int .i64 ro2, .int .i64 rf2, .int .i64 rl2, .int .i64 rc2, .slice pa2 pn2 pc2, .slice ia2 iN2 ic2].toArray 131)).alloc (.cells [.int .i64 0, .string ⟨#[]⟩, .int .i64 0, .int .u64 0, .string ⟨#[]⟩, .int .i64 0, .int .i64 0, .int .i64 0, .int .i64 0, .slice none 0 0, .slice none 0 0].toArray 131)) = w1 :=
    ⟨_, ((Row.made w 131 _).alloc _).alloc _, (row_atOne w _ 131 _).alloc _, row_at2 w _ _ 131 _, below3 w _ _ _, rfl⟩
  rw [e]
  clear e
  have HN1 := Lib.hid hn1
  have HN2 := Lib.hid hn2
  clear hn1 hn2
  obtain ⟨k1_0, k1_1, k1_2, k1_3, k1_4, k1_5, k1_6, k1_7, k1_8, k1_9, k1_10, k1f⟩ := row11 RA
  obtain ⟨k2_0, k2_1, k2_2, k2_3, k2_4, k2_5, k2_6, k2_7, k2_8, k2_9, k2_10, k2f⟩ := row11 RB
  replace RA := Lib.hid RA
  replace RB := Lib.hid RB
  replace RC := Lib.hid RC
  replace HB := Lib.hid HB
  have d1 : w.heap.size + 1 + 1 ≠ w.heap.size := by omega
  have d2 : w.heap.size + 1 + 1 ≠ w.heap.size + 1 := by omega
  have d3 : w.heap.size ≠ w.heap.size + 1 + 1 := by omega
  have d4 : w.heap.size + 1 ≠ w.heap.size + 1 + 1 := by omega
  go_region_held3 (fun w' => w'.cell? ⟨w.heap.size, 0, none⟩ = some (.int .i64 k) ∧ w'.cell? ⟨w.heap.size, 1, none⟩ = some (.string t) ∧ w'.cell? ⟨w.heap.size, 2, none⟩ = some (.int .i64 n) ∧ w'.cell? ⟨w.heap.size, 3, none⟩ = some (.int .u64 f) ∧ w'.cell? ⟨w.heap.size, 4, none⟩ = some (.string s) ∧ w'.cell? ⟨w.heap.size, 5, none⟩ = some (.int .i64 ro) ∧ w'.cell? ⟨w.heap.size, 6, none⟩ = some (.int .i64 rf) ∧ w'.cell? ⟨w.heap.size, 7, none⟩ = some (.int .i64 rl) ∧ w'.cell? ⟨w.heap.size, 8, none⟩ = some (.int .i64 rc) ∧ w'.cell? ⟨w.heap.size, 9, none⟩ = some (.slice pa pn pc) ∧ w'.cell? ⟨w.heap.size, 10, none⟩ = some (.slice ia iN ic) ∧ w'.cell? ⟨w.heap.size + 1, 0, none⟩ = some (  .int .i64 k) ∧ w'.cell? ⟨w.heap.size + 1, 1, none⟩ = some (.string t2) ∧ w'.cell? ⟨w.heap.size + 1, 2, none⟩ = some (.int .i64 n2) ∧ w'.cell? ⟨w.heap.size + 1, 3, none⟩ = some (.int .u64 f2) ∧ w'.cell? ⟨w.heap.size + 1, 4, none⟩ = some (.string s2) ∧ w'.cell? ⟨w.heap.size + 1, 5, none⟩ = some (.int .i64 ro2) ∧ w'.cell? ⟨w.heap.size + 1, 6, none⟩ = some (.int .i64 rf2) ∧ w'.cell? ⟨w.heap.size + 1, 7, none⟩ = some (.int .i64 rl2) ∧ w'.cell? ⟨w.heap.size + 1, 8, none⟩ = some (.int .i64 rc2) ∧ w'.cell? ⟨w.heap.size + 1, 9, none⟩ = some (.slice pa2 pn2 pc2) ∧ w'.cell? ⟨w.heap.size + 1, 10, none⟩ = some (.slice ia2 iN2 ic2)) (first | go_keep | exact ⟨k1_0, k1_1, k1_2, k1_3, k1_4, k1_5, k1_6, k1_7, k1_8, k1_9, k1_10, k2_0, k2_1, k2_2, k2_3, k2_4, k2_5, k2_6, k2_7, k2_8, k2_9, k2_10⟩) (first | (go_at_call 152; (with_reducible refine (HN1.out _).mono ?_); rintro en w2 ⟨rfl, hb⟩; have RAx := RA.out.drew.below hb RA.out.drew.lt; have RBx := RB.out.drew.below hb RB.out.drew.lt; have RCx := RC.out.drew.below hb RC.out.drew.lt; have HBx : Below w.heap.size w w2 := below_more (below_drew HB.out) hb HB.out.size; clear RA RB RC HB HN1 hb; have RA := Lib.hid RAx; have RB := Lib.hid RBx; have RC := Lib.hid RCx; have HB := Lib.hid HBx; clear RAx RBx RCx HBx; obtain ⟨k1_0, k1_1, k1_2, k1_3, k1_4, k1_5, k1_6, k1_7, k1_8, k1_9, k1_10, k1f⟩ := row11 RA.out; obtain ⟨k2_0, k2_1, k2_2, k2_3, k2_4, k2_5, k2_6, k2_7, k2_8, k2_9, k2_10, k2f⟩ := row11 RB.out) | (go_at_call 152; (with_reducible refine (HN2.out _).mono ?_); rintro en w2 ⟨rfl, hb⟩; have RAx := RA.out.drew.below hb RA.out.drew.lt; have RBx := RB.out.drew.below hb RB.out.drew.lt; have RCx := RC.out.drew.below hb RC.out.drew.lt; have HBx : Below w.heap.size w w2 := below_more (below_drew HB.out) hb HB.out.size; clear RA RB RC HB HN2 hb; have RA := Lib.hid RAx; have RB := Lib.hid RBx; have RC := Lib.hid RCx; have HB := Lib.hid HBx; clear RAx RBx RCx HBx; obtain ⟨k1_0, k1_1, k1_2, k1_3, k1_4, k1_5, k1_6, k1_7, k1_8, k1_9, k1_10, k1f⟩ := row11 RA.out; obtain ⟨k2_0, k2_1, k2_2, k2_3, k2_4, k2_5, k2_6, k2_7, k2_8, k2_9, k2_10, k2f⟩ := row11 RB.out) | (go_at_call 152; (with_reducible refine (HN1.out _).mono ?_); rintro en w3 ⟨rfl, hb⟩; have RAx := RA.out.below hb RA.out.lt; have RBx := RB.out.below hb RB.out.lt; have RCx := RC.out.below hb RC.out.lt; have HBx : Below w.heap.size w w3 := below_more (HB.out) hb HB.out.size; clear RA RB RC HB HN1 hb; have RA := Lib.hid RAx; have RB := Lib.hid RBx; have RC := Lib.hid RCx; have HB := Lib.hid HBx; clear RAx RBx RCx HBx; obtain ⟨k1_0, k1_1, k1_2, k1_3, k1_4, k1_5, k1_6, k1_7, k1_8, k1_9, k1_10, k1f⟩ := row11 RA.out; obtain ⟨k2_0, k2_1, k2_2, k2_3, k2_4, k2_5, k2_6, k2_7, k2_8, k2_9, k2_10, k2f⟩ := row11 RB.out) | (go_at_call 152; (with_reducible refine (HN2.out _).mono ?_); rintro en w3 ⟨rfl, hb⟩; have RAx := RA.out.below hb RA.out.lt; have RBx := RB.out.below hb RB.out.lt; have RCx := RC.out.below hb RC.out.lt; have HBx : Below w.heap.size w w3 := below_more (HB.out) hb HB.out.size; clear RA RB RC HB HN2 hb; have RA := Lib.hid RAx; have RB := Lib.hid RBx; have RC := Lib.hid RCx; have HB := Lib.hid HBx; clear RAx RBx RCx HBx; obtain ⟨k1_0, k1_1, k1_2, k1_3, k1_4, k1_5, k1_6, k1_7, k1_8, k1_9, k1_10, k1f⟩ := row11 RA.out; obtain ⟨k2_0, k2_1, k2_2, k2_3, k2_4, k2_5, k2_6, k2_7, k2_8, k2_9, k2_10, k2f⟩ := row11 RB.out) | (go_at_call 151; refine (operand3 w3.heap.size _ op nm nm2 _ (Row.made w3 _ [.string op, .string nm, .string nm2]) hs2.out).mono ?_; rintro en w4 ⟨v, rfl, ⟨g, rfl, hg, hr⟩, hb⟩; have RAx := (RA.out.alloc _).below hb (RA.out.alloc _).lt; have RBx := (RB.out.alloc _).below hb (RB.out.alloc _).lt; have RCx := (RC.out.alloc _).below hb (RC.out.alloc _).lt; have HBx : Below w.heap.size w w4 := below_more (HB.out.alloc HB.out.size _) hb (by have := HB.out.size; simp <;> omega); have HG4 : Hid (w.heap.size + 1 + 1 < g) := Lib.hid (by have := RC.out.lt; simp at hg; omega); have HF4 := Lib.hid hr; clear RA RB RC HB hb hr hg; have RC := Lib.hid RCx; have HB := Lib.hid HBx; obtain ⟨k1_0, k1_1, k1_2, k1_3, k1_4, k1_5, k1_6, k1_7, k1_8, k1_9, k1_10, k1f⟩ := row11 RAx; obtain ⟨k2_0, k2_1, k2_2, k2_3, k2_4, k2_5, k2_6, k2_7, k2_8, k2_9, k2_10, k2f⟩ := row11 RBx; obtain ⟨c0, c1, c2, c3, c4, c5, c6, c7, c8, c9, c10, cf⟩ := row11 RC.out; clear RAx RBx RCx HBx))
  all_goals
    go_wp2
    exact bodyPost_ret (ret_ct rfl _ _ (w.heap.size + 1 + 1) _ rfl (set11 RC.out) rfl) rfl ⟨_, rfl, ⟨g, rfl, by have := HG4.out; omega, far11 HF4.out (by have := HG4.out; omega)⟩, below11 HB.out (by omega)⟩
theorem bin17_err (op x y : ByteArray) (k : Int) (t s : ByteArray) (n f ro rf rl rc : Int) (pa ia : Option Addr) (pn pc iN ic : Nat) (s2 : ByteArray) (n2 f2 ro2 rf2 rl2 rc2 : Int) (pa2 ia2 : Option Addr) (pn2 pc2 iN2 ic2 : Nat) (w : World)
    (hf : ∀ W, Below w.heap.size w W → Calls Tryz.prog 156 #[.string op, (Dat.mk k t n f s ro rf rl rc pa pn pc ia iN ic).val, (Dat.mk k t n2 f2 s2 ro2 rf2 rl2 rc2 pa2 pn2 pc2 ia2 iN2 ic2).val] W fun e w' => ∃ v, e = .returned (.tuple #[zeroD.val, .bool false, v]) ∧ IsFault W w' v x y ∧ Below W.heap.size W w') :
    Calls Tryz.prog 121 #[.string op, (Dat.mk k t n f s ro rf rl rc pa pn pc ia iN ic).val, (Dat.mk k t n2 f2 s2 ro2 rf2 rl2 rc2 pa2 pn2 pc2 ia2 iN2 ic2).val] w fun e w' => ∃ v, e = .returned (.tuple #[zeroD.val, v]) ∧ IsFault w w' v x y ∧ Below w.heap.size w w' := by
  have HI := Lib.hid hf
  clear hf
  unfold zeroD mk Dat.val at *
  go_enter Tryz.func121, Tryz.ntmps121
  go_wp2_with (first
    | (go_at_call 156; refine (HI.out _ ?hW).mono ?_
       case hW => exact below3 w _ _ _
       rintro en w2 ⟨v, rfl, ⟨g, rfl, hg, hr⟩, hb⟩
       have hR2 : Hid (Row w2 (w.heap.size + 1 + 1) 131 zeroC) := (row_at2 w _ _ 131 zeroC).below hb (by simp)
       have hB2 : Hid (Below w.heap.size w w2) := below_more (below3 w _ _ _) hb (by simp <;> omega)
       have hF2 := Lib.hid hr
       have hgs : w.heap.size + 1 + 1 < g := by simp at hg; omega
       clear hr hb hg HI)
    | (refine put_dat (.tmp 6) (.tmp 36) (w.heap.size + 1 + 1) zeroC zeroD.cells _ rfl rfl rfl rfl (hR2.out.alloc _) rfl rfl rfl ?_; intro w5 hr5 hb5 hf5
       have hB5 : Hid (Below w.heap.size w w5) := (below_more hB2.out (below1 _ _) hB2.out.size).trans (hb5 _ (by omega))
       have hR5 := Lib.hid hr5
       have hF5 : Hid (Row w5 g 139 [.string x, .string y]) := (hf5 g (by omega)).trans (hF2.out.alloc _)
       clear hB2 hR2 hb5 hr5 hf5 hF2))
  refine bodyPost_ret (ret_ct rfl _ _ (w.heap.size + 1 + 1) _ rfl hR5.out rfl) rfl ⟨_, rfl, ⟨g, rfl, by omega, hF5.out⟩, hB5.out⟩
theorem bin17_no (op : ByteArray) (k : Int) (t s : ByteArray) (n f ro rf rl rc : Int) (pa ia : Option Addr) (pn pc iN ic : Nat) (s2 : ByteArray) (n2 f2 ro2 rf2 rl2 rc2 : Int) (pa2 ia2 : Option Addr) (pn2 pc2 iN2 ic2 : Nat) (d : Dat) (w : World) (hs : op.size + t.size + t.size ≤ 3000000)
    (hf : ∀ w, Calls Tryz.prog 156 #[.string op, (Dat.mk k t n f s ro rf rl rc pa pn pc ia iN ic).val, (Dat.mk k t n2 f2 s2 ro2 rf2 rl2 rc2 pa2 pn2 pc2 ia2 iN2 ic2).val] w fun e w' => e = .returned (.tuple #[d.val, .bool false, .nilIface]) ∧ Below w.heap.size w w') :
    Calls Tryz.prog 121 #[.string op, (Dat.mk k t n f s ro rf rl rc pa pn pc ia iN ic).val, (Dat.mk k t n2 f2 s2 ro2 rf2 rl2 rc2 pa2 pn2 pc2 ia2 iN2 ic2).val] w fun e w' => ∃ v, e = .returned (.tuple #[zeroD.val, v]) ∧ IsFault w w' v sOperand (op ++ ⟨#[32]⟩ ++ nameOf (Dat.mk k t n f s ro rf rl rc pa pn pc ia iN ic) ++ ⟨#[32]⟩ ++ nameOf (Dat.mk k t n2 f2 s2 ro2 rf2 rl2 rc2 pa2 pn2 pc2 ia2 iN2 ic2)) ∧ Below w.heap.size w w' := by
  have HF := Lib.hid hf
  clear hf
  have hn1 := fun w => name_any (Dat.mk k t n f s ro rf rl rc pa pn pc ia iN ic) w (by simp only; omega)
  have hn2 := fun w => name_any (Dat.mk k t n2 f2 s2 ro2 rf2 rl2 rc2 pa2 pn2 pc2 ia2 iN2 ic2) w (by simp only; omega)
  have hz := name_size (Dat.mk k t n f s ro rf rl rc pa pn pc ia iN ic)
  have hz2 := name_size (Dat.mk k t n2 f2 s2 ro2 rf2 rl2 rc2 pa2 pn2 pc2 ia2 iN2 ic2)
  generalize nameOf (Dat.mk k t n f s ro rf rl rc pa pn pc ia iN ic) = nm at *
  generalize nameOf (Dat.mk k t n2 f2 s2 ro2 rf2 rl2 rc2 pa2 pn2 pc2 ia2 iN2 ic2) = nm2 at *
  have hs2 : Hid (op.size + nm.size + nm2.size ≤ 4000000) := Lib.hid (by simp only at hz hz2; omega)
  clear hz hz2 hs
  unfold Dat.val at *
  go_enter Tryz.func121, Tryz.ntmps121
  go_wp2_with (first
    | (go_at_call 156; refine (HF.out _).mono ?_
       rintro en w2 ⟨rfl, hb⟩
       have RA2 : Hid (Row w2 w.heap.size 131 [.int .i64 k, .string t, .int .i64 n, .int .u64 f, .string s, .int .i64 ro, .int .i64 rf, .int .i64 rl, .int .i64 rc, .slice pa pn pc, .slice ia iN ic]) := (((Row.made w 131 _).alloc _).alloc _).below hb (by simp <;> omega)
       have RB2 : Hid (Row w2 (w.heap.size + 1) 131 [.int .i64 k, .string t, .int .i64 n2, .int .u64 f2, .string s2, .int .i64 ro2, .int .i64 rf2, .int .i64 rl2, .int .i64 rc2, .slice pa2 pn2 pc2, .slice ia2 iN2 ic2]) := ((row_atOne w _ 131 _).alloc _).below hb (by simp)
       have RC2 : Hid (Row w2 (w.heap.size + 1 + 1) 131 [.int .i64 0, .string ⟨#[]⟩, .int .i64 0, .int .u64 0, .string ⟨#[]⟩, .int .i64 0, .int .i64 0, .int .i64 0, .int .i64 0, .slice none 0 0, .slice none 0 0]) := (row_at2 w _ _ 131 _).below hb (by simp)
       have HB2 : Hid (Below w.heap.size w w2) := below_more (below3 w _ _ _) hb (by simp <;> omega)
       clear hb HF))
  obtain ⟨w1, RA, RB, RC, HB, e⟩ : ∃ w1, Row w1 w.heap.size 131 [.int .i64 k, .string t, .int .i64 n, .int .u64 f, .string s, .int .i64 ro, .int .i64 rf, .int .i64 rl, .int .i64 rc, .slice pa pn pc, .slice ia iN ic] ∧ Row w1 (w.heap.size + 1) 131 [.int .i64 k, .string t, .int .i64 n2, .int .u64 f2, .string s2, .int .i64 ro2, .int .i64 rf2, .int .i64 rl2, .int .i64 rc2, .slice pa2 pn2 pc2, .slice ia2 iN2 ic2] ∧ Row w1 (w.heap.size + 1 + 1) 131 [.int .i64 0, .string ⟨#[]⟩, .int .i64 0, .int .u64 0, .string ⟨#[]⟩, .int .i64 0, .int .i64 0, .int .i64 0, .int .i64 0, .slice none 0 0, .slice none 0 0] ∧ Below w.heap.size w w1 ∧ w2.alloc (.cells ([.int .i64 d.k, .string d.t, .int .i64 d.n, .int .u64 d.f, .string d.s, .int .i64 d.ro, .int .i64 d.rf, .int .i64 d.rl, .int .i64 d.rc, .slice d.pa d.pn d.pc, .slice d.ia d.iN d.ic] : List Value).toArray 131) = w1 :=
    ⟨_, RA2.out.alloc _, RB2.out.alloc _, RC2.out.alloc _, HB2.out.alloc HB2.out.size _, rfl⟩
  rw [e]
  clear e RA2 RB2 RC2 HB2
  have HN1 := Lib.hid hn1
  have HN2 := Lib.hid hn2
  clear hn1 hn2
  obtain ⟨k1_0, k1_1, k1_2, k1_3, k1_4, k1_5, k1_6, k1_7, k1_8, k1_9, k1_10, k1f⟩ := row11 RA
  obtain ⟨k2_0, k2_1, k2_2, k2_3, k2_4, k2_5, k2_6, k2_7, k2_8, k2_9, k2_10, k2f⟩ := row11 RB
  replace RA := Lib.hid RA
  replace RB := Lib.hid RB
  replace RC := Lib.hid RC
  replace HB := Lib.hid HB
  have d1 : w.heap.size + 1 + 1 ≠ w.heap.size := by omega
  have d2 : w.heap.size + 1 + 1 ≠ w.heap.size + 1 := by omega
  have d3 : w.heap.size ≠ w.heap.size + 1 + 1 := by omega
  have d4 : w.heap.size + 1 ≠ w.heap.size + 1 + 1 := by omega
  go_region_held3 (fun w' => w'.cell? ⟨w.heap.size, 0, none⟩ = some (.int .i64 k) ∧ w'.cell? ⟨w.heap.size, 1, none⟩ = some (.string t) ∧ w'.cell? ⟨w.heap.size, 2, none⟩ = some (.int .i64 n) ∧ w'.cell? ⟨w.heap.size, 3, none⟩ = some (.int .u64 f) ∧ w'.cell? ⟨w.heap.size, 4, none⟩ = some (.string s) ∧ w'.cell? ⟨w.heap.size, 5, none⟩ = some (.int .i64 ro) ∧ w'.cell? ⟨w.heap.size, 6, none⟩ = some (.int .i64 rf) ∧ w'.cell? ⟨w.heap.size, 7, none⟩ = some (.int .i64 rl) ∧ w'.cell? ⟨w.heap.size, 8, none⟩ = some (.int .i64 rc) ∧ w'.cell? ⟨w.heap.size, 9, none⟩ = some (.slice pa pn pc) ∧ w'.cell? ⟨w.heap.size, 10, none⟩ = some (.slice ia iN ic) ∧ w'.cell? ⟨w.heap.size + 1, 0, none⟩ = some (.int .i64 k) ∧ w'.cell? ⟨w.heap.size + 1, 1, none⟩ = some (.string t) ∧ w'.cell? ⟨w.heap.size + 1, 2, none⟩ = some (.int .i64 n2) ∧ w'.cell? ⟨w.heap.size + 1, 3, none⟩ = some (.int .u64 f2) ∧ w'.cell? ⟨w.heap.size + 1, 4, none⟩ = some (.string s2) ∧ w'.cell? ⟨w.heap.size + 1, 5, none⟩ = some (.int .i64 ro2) ∧ w'.cell? ⟨w.heap.size + 1, 6, none⟩ = some (.int .i64 rf2) ∧ w'.cell? ⟨w.heap.size + 1, 7, none⟩ = some (.int .i64 rl2) ∧ w'.cell? ⟨w.heap.size + 1, 8, none⟩ = some (.int .i64 rc2) ∧ w'.cell? ⟨w.heap.size + 1, 9, none⟩ = some (.slice pa2 pn2 pc2) ∧ w'.cell? ⟨w.heap.size + 1, 10, none⟩ = some (.slice ia2 iN2 ic2)) (first | go_keep | exact ⟨k1_0, k1_1, k1_2, k1_3, k1_4, k1_5, k1_6, k1_7, k1_8, k1_9, k1_10, k2_0, k2_1, k2_2, k2_3, k2_4, k2_5, k2_6, k2_7, k2_8, k2_9, k2_10⟩) (first | (go_at_call 152; (with_reducible refine (HN1.out _).mono ?_); rintro en w2 ⟨rfl, hb⟩; have RAx := RA.out.drew.below hb RA.out.drew.lt; have RBx := RB.out.drew.below hb RB.out.drew.lt; have RCx := RC.out.drew.below hb RC.out.drew.lt; have HBx : Below w.heap.size w w2 := below_more (below_drew HB.out) hb HB.out.size; clear RA RB RC HB HN1 hb; have RA := Lib.hid RAx; have RB := Lib.hid RBx; have RC := Lib.hid RCx; have HB := Lib.hid HBx; clear RAx RBx RCx HBx; obtain ⟨k1_0, k1_1, k1_2, k1_3, k1_4, k1_5, k1_6, k1_7, k1_8, k1_9, k1_10, k1f⟩ := row11 RA.out; obtain ⟨k2_0, k2_1, k2_2, k2_3, k2_4, k2_5, k2_6, k2_7, k2_8, k2_9, k2_10, k2f⟩ := row11 RB.out) | (go_at_call 152; (with_reducible refine (HN2.out _).mono ?_); rintro en w2 ⟨rfl, hb⟩; have RAx := RA.out.drew.below hb RA.out.drew.lt; have RBx := RB.out.drew.below hb RB.out.drew.lt; have RCx := RC.out.drew.below hb RC.out.drew.lt; have HBx : Below w.heap.size w w2 := below_more (below_drew HB.out) hb HB.out.size; clear RA RB RC HB HN2 hb; have RA := Lib.hid RAx; have RB := Lib.hid RBx; have RC := Lib.hid RCx; have HB := Lib.hid HBx; clear RAx RBx RCx HBx; obtain ⟨k1_0, k1_1, k1_2, k1_3, k1_4, k1_5, k1_6, k1_7, k1_8, k1_9, k1_10, k1f⟩ := row11 RA.out; obtain ⟨k2_0, k2_1, k2_2, k2_3, k2_4, k2_5, k2_6, k2_7, k2_8, k2_9, k2_10, k2f⟩ := row11 RB.out) | (go_at_call 152; (with_reducible refine (HN1.out _).mono ?_); rintro en w3 ⟨rfl, hb⟩; have RAx := RA.out.below hb RA.out.lt; have RBx := RB.out.below hb RB.out.lt; have RCx := RC.out.below hb RC.out.lt; have HBx : Below w.heap.size w w3 := below_more (HB.out) hb HB.out.size; clear RA RB RC HB HN1 hb; have RA := Lib.hid RAx; have RB := Lib.hid RBx; have RC := Lib.hid RCx; have HB := Lib.hid HBx; clear RAx RBx RCx HBx; obtain ⟨k1_0, k1_1, k1_2, k1_3, k1_4, k1_5, k1_6, k1_7, k1_8, k1_9, k1_10, k1f⟩ := row11 RA.out; obtain ⟨k2_0, k2_1, k2_2, k2_3, k2_4, k2_5, k2_6, k2_7, k2_8, k2_9, k2_10, k2f⟩ := row11 RB.out) | (go_at_call 152; (with_reducible refine (HN2.out _).mono ?_); rintro en w3 ⟨rfl, hb⟩; have RAx := RA.out.below hb RA.out.lt; have RBx := RB.out.below hb RB.out.lt; have RCx := RC.out.below hb RC.out.lt; have HBx : Below w.heap.size w w3 := below_more (HB.out) hb HB.out.size; clear RA RB RC HB HN2 hb; have RA := Lib.hid RAx; have RB := Lib.hid RBx; have RC := Lib.hid RCx; have HB := Lib.hid HBx; clear RAx RBx RCx HBx; obtain ⟨k1_0, k1_1, k1_2, k1_3, k1_4, k1_5, k1_6, k1_7, k1_8, k1_9, k1_10, k1f⟩ := row11 RA.out; obtain ⟨k2_0, k2_1, k2_2, k2_3, k2_4, k2_5, k2_6, k2_7, k2_8, k2_9, k2_10, k2f⟩ := row11 RB.out) | (go_at_call 151; refine (operand3 w3.heap.size _ op nm nm2 _ (Row.made w3 _ [.string op, .string nm, .string nm2]) hs2.out).mono ?_; rintro en w4 ⟨v, rfl, ⟨g, rfl, hg, hr⟩, hb⟩; have RAx := (RA.out.alloc _).below hb (RA.out.alloc _).lt; have RBx := (RB.out.alloc _).below hb (RB.out.alloc _).lt; have RCx := (RC.out.alloc _).below hb (RC.out.alloc _).lt; have HBx : Below w.heap.size w w4 := below_more (HB.out.alloc HB.out.size _) hb (by have := HB.out.size; simp <;> omega); have HG4 : Hid (w.heap.size + 1 + 1 < g) := Lib.hid (by have := RC.out.lt; simp at hg; omega); have HF4 := Lib.hid hr; clear RA RB RC HB hb hr hg; have RC := Lib.hid RCx; have HB := Lib.hid HBx; obtain ⟨k1_0, k1_1, k1_2, k1_3, k1_4, k1_5, k1_6, k1_7, k1_8, k1_9, k1_10, k1f⟩ := row11 RAx; obtain ⟨k2_0, k2_1, k2_2, k2_3, k2_4, k2_5, k2_6, k2_7, k2_8, k2_9, k2_10, k2f⟩ := row11 RBx; obtain ⟨c0, c1, c2, c3, c4, c5, c6, c7, c8, c9, c10, cf⟩ := row11 RC.out; clear RAx RBx RCx HBx))
  all_goals
    go_wp2
    exact bodyPost_ret (ret_ct rfl _ _ (w.heap.size + 1 + 1) _ rfl (set11 RC.out) rfl) rfl ⟨_, rfl, ⟨g, rfl, by have := HG4.out; omega, far11 HF4.out (by have := HG4.out; omega)⟩, below11 HB.out (by omega)⟩
end Go.Proofs.YtmecmlpoallpcaaGreatDoor
