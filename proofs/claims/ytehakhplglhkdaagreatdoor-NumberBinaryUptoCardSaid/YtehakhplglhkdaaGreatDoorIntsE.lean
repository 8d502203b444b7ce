/- number.ints: the faults 'divide' and 'count'. Conditions: as said. -/
import Derived.Test.YtehakhplglhkdaaGreatDoorTextBin
import Derived.Test.YtehakhplglhkdaaGreatDoorUnaryA
import Derived.Deep.QuietTactic
import Derived.BigQuiet
namespace Go.Proofs.YtehakhplglhkdaaGreatDoor
set_option linter.unusedVariables false
open Go.RowKit

set_option maxRecDepth 200000 in
set_option maxHeartbeats 2000000 in
theorem i_div0 (t s : ByteArray) (n f ro rf rl rc : Int) (pa ia : Option Addr) (pn pc iN ic : Nat) (s2 : ByteArray) (n2 f2 ro2 rf2 rl2 rc2 : Int) (pa2 ia2 : Option Addr) (pn2 pc2 iN2 ic2 : Nat) (w : World) : Calls Tryz.prog 68 #[.string ⟨#[47]⟩, (Dat.mk 2 t n f s ro rf rl rc pa pn pc ia iN ic).val, (Dat.mk 2 t 0 f2 s2 ro2 rf2 rl2 rc2 pa2 pn2 pc2 ia2 iN2 ic2).val] w fun e w' => ∃ v, e = .returned (.tuple #[zeroD.val, .bool false, v]) ∧ IsFault w w' v sDivide ⟨#[]⟩ ∧ Below w.heap.size w w' := by
  unfold zeroD mk Dat.val
  go_enter Tryz.func68, Tryz.ntmps68
  go_wp2_with fail
  go_quiet (fail)
  go_wp2_with (first
    | (go_at_call 65; refine (fault_any _ _ _).mono ?_; rintro en w2 ⟨g, rfl, hg, hr, hb⟩
       have hR2 : Hid (Row w2 (w.heap.size + 1 + 1) 28 zeroC) := (Row.drewN (row_at2 w _ _ 28 zeroC) _).below hb (by simp)
       have hB2 : Hid (Below w.heap.size w w2) := below_more (below_drewN (below3 w _ _ _) _) hb (by simp; omega)
       have hF2 := Lib.hid hr
       have hgs : w.heap.size + 1 + 1 < g := by simp at hg; omega
       clear hr hb hg)
    | (have ord := hB2.out.size; refine put_dat (.tmp 6) (.tmp 55) (w.heap.size + 1 + 1) zeroC zeroD.cells w2 rfl rfl rfl rfl hR2.out rfl rfl rfl ?_; intro w5 hr5 hb5 hf5
       have hB5 := Lib.hid (hB2.out.trans (hb5 _ (by omega)))
       have hR5 := Lib.hid hr5
       have hF5 : Hid (Row w5 g 35 [.string sDivide, .string ⟨#[]⟩]) := (hf5 g (by omega)).trans hF2.out
       clear ord hB2 hR2 hb5 hr5 hf5 hF2))
  refine bodyPost_ret (ret_ctt rfl _ _ (w.heap.size + 1 + 1) _ rfl hR5.out rfl) rfl ⟨_, rfl, ⟨g, rfl, by omega, hF5.out⟩, hB5.out⟩
set_option maxRecDepth 200000 in
set_option maxHeartbeats 2000000 in
theorem i_rem0 (t s : ByteArray) (n f ro rf rl rc : Int) (pa ia : Option Addr) (pn pc iN ic : Nat) (s2 : ByteArray) (n2 f2 ro2 rf2 rl2 rc2 : Int) (pa2 ia2 : Option Addr) (pn2 pc2 iN2 ic2 : Nat) (w : World) : Calls Tryz.prog 68 #[.string ⟨#[37]⟩, (Dat.mk 2 t n f s ro rf rl rc pa pn pc ia iN ic).val, (Dat.mk 2 t 0 f2 s2 ro2 rf2 rl2 rc2 pa2 pn2 pc2 ia2 iN2 ic2).val] w fun e w' => ∃ v, e = .returned (.tuple #[zeroD.val, .bool false, v]) ∧ IsFault w w' v sDivide ⟨#[]⟩ ∧ Below w.heap.size w w' := by
  unfold zeroD mk Dat.val
  go_enter Tryz.func68, Tryz.ntmps68
  go_wp2_with fail
  go_quiet (fail)
  go_wp2_with (first
    | (go_at_call 65; refine (fault_any _ _ _).mono ?_; rintro en w2 ⟨g, rfl, hg, hr, hb⟩
       have hR2 : Hid (Row w2 (w.heap.size + 1 + 1) 28 zeroC) := (Row.drewN (row_at2 w _ _ 28 zeroC) _).below hb (by simp)
       have hB2 : Hid (Below w.heap.size w w2) := below_more (below_drewN (below3 w _ _ _) _) hb (by simp; omega)
       have hF2 := Lib.hid hr
       have hgs : w.heap.size + 1 + 1 < g := by simp at hg; omega
       clear hr hb hg)
    | (have ord := hB2.out.size; refine put_dat (.tmp 6) (.tmp 55) (w.heap.size + 1 + 1) zeroC zeroD.cells w2 rfl rfl rfl rfl hR2.out rfl rfl rfl ?_; intro w5 hr5 hb5 hf5
       have hB5 := Lib.hid (hB2.out.trans (hb5 _ (by omega)))
       have hR5 := Lib.hid hr5
       have hF5 : Hid (Row w5 g 35 [.string sDivide, .string ⟨#[]⟩]) := (hf5 g (by omega)).trans hF2.out
       clear ord hB2 hR2 hb5 hr5 hf5 hF2))
  refine bodyPost_ret (ret_ctt rfl _ _ (w.heap.size + 1 + 1) _ rfl hR5.out rfl) rfl ⟨_, rfl, ⟨g, rfl, by omega, hF5.out⟩, hB5.out⟩
set_option maxRecDepth 200000 in
set_option maxHeartbeats 2000000 in
theorem i_shln (t s : ByteArray) (n f ro rf rl rc : Int) (pa ia : Option Addr) (pn pc iN ic : Nat) (s2 : ByteArray) (n2 f2 ro2 rf2 rl2 rc2 : Int) (pa2 ia2 : Option Addr) (pn2 pc2 iN2 ic2 : Nat) (w : World) (h2 : -9223372036854775808 ≤ n2 ∧ n2 ≤ 9223372036854775807) (hb : n2 < 0) (htab : Lib.TabIs Tryz.prog w "internal/strconv.uint64pow10" .u64 Lib.pow10Tab) : Calls Tryz.prog 68 #[.string ⟨#[60, 60]⟩, (Dat.mk 2 t n f s ro rf rl rc pa pn pc ia iN ic).val, (Dat.mk 2 t n2 f2 s2 ro2 rf2 rl2 rc2 pa2 pn2 pc2 ia2 iN2 ic2).val] w fun e w' => ∃ v, e = .returned (.tuple #[zeroD.val, .bool false, v]) ∧ IsFault w w' v sCount ⟨(Lib.itoa n2).toArray⟩ ∧ Below w.heap.size w w' := by
  have HTAB := Lib.hid (Lib.tabBelow_of_tabIs htab)
  have HI := Lib.hid fun W (hW : Below w.heap.size w W) => Tryz.strconv_Itoa n2 h2.1 (by omega) W (HTAB.out W hW)
  have c1 : decide (n2 < 0) = true := decide_eq_true hb
  generalize (⟨(Lib.itoa n2).toArray⟩ : ByteArray) = m at *
  clear h2 htab HTAB
  unfold zeroD mk Dat.val
  go_enter Tryz.func68, Tryz.ntmps68
  go_wp2_with fail
  go_quiet (fail)
  go_wp2_with (first
    | (go_at_call 59; refine (HI.out _ ?hW).mono ?_
       case hW => exact below_drewN (below3 w _ _ _) _
       rintro en w2 ⟨rfl, k, os, hw⟩
       have hb2 := below_of_grow hw
       have R2 : Hid (Row w2 (w.heap.size + 1 + 1) 28 zeroC) := (Row.drewN (row_at2 w _ _ 28 zeroC) _).below hb2 (by simp)
       have B2 : Hid (Below w.heap.size w w2) := below_more (below_drewN (below3 w _ _ _) _) hb2 (by simp <;> omega)
       clear hw hb2 HI)
    | (go_at_call 65; refine (fault_any _ _ _).mono ?_; rintro en w3 ⟨g, rfl, hg, hr, hb3⟩
       have R3 : Hid (Row w3 (w.heap.size + 1 + 1) 28 zeroC) := R2.out.below hb3 R2.out.lt
       have B3 : Hid (Below w.heap.size w w3) := below_more B2.out hb3 B2.out.size
       have F3 := Lib.hid hr
       have hgs : Hid (w.heap.size + 1 + 1 < g) := Lib.hid (by have := R2.out.lt; omega)
       clear hr hb3 hg R2 B2)
    | (have ord := B3.out.size; refine put_dat (.tmp 6) (.tmp 92) (w.heap.size + 1 + 1) zeroC zeroD.cells _ rfl rfl rfl rfl R3.out rfl rfl rfl ?_; intro w5 hr5 hb5 hf5
       have B5 : Hid (Below w.heap.size w w5) := B3.out.trans (hb5 _ (by omega))
       have R5 := Lib.hid hr5
       have F5 : Hid (Row w5 g 35 _) := (hf5 g (by have := hgs.out; omega)).trans F3.out
       clear ord B3 R3 hb5 hr5 hf5 F3))
  exact bodyPost_ret (ret_ctt rfl _ _ (w.heap.size + 1 + 1) _ rfl R5.out rfl) rfl ⟨_, rfl, ⟨g, rfl, by have := hgs.out; omega, F5.out⟩, B5.out⟩
set_option maxRecDepth 200000 in
set_option maxHeartbeats 2000000 in
theorem i_shrn (t s : ByteArray) (n f ro rf rl rc : Int) (pa ia : Option Addr) (pn pc iN ic : Nat) (s2 : ByteArray) (n2 f2 ro2 rf2 rl2 rc2 : Int) (pa2 ia2 : Option Addr) (pn2 pc2 iN2 ic2 : Nat) (w : World) (h2 : -9223372036854775808 ≤ n2 ∧ n2 ≤ 9223372036854775807) (hb : n2 < 0) (htab : Lib.TabIs Tryz.prog w "internal/strconv.uint64pow10" .u64 Lib.pow10Tab) : Calls Tryz.prog 68 #[.string ⟨#[62, 62]⟩, (Dat.mk 2 t n f s ro rf rl rc pa pn pc ia iN ic).val, (Dat.mk 2 t n2 f2 s2 ro2 rf2 rl2 rc2 pa2 pn2 pc2 ia2 iN2 ic2).val] w fun e w' => ∃ v, e = .returned (.tuple #[zeroD.val, .bool false, v]) ∧ IsFault w w' v sCount ⟨(Lib.itoa n2).toArray⟩ ∧ Below w.heap.size w w' := by
  have HTAB := Lib.hid (Lib.tabBelow_of_tabIs htab)
  have HI := Lib.hid fun W (hW : Below w.heap.size w W) => Tryz.strconv_Itoa n2 h2.1 (by omega) W (HTAB.out W hW)
  have c1 : decide (n2 < 0) = true := decide_eq_true hb
  generalize (⟨(Lib.itoa n2).toArray⟩ : ByteArray) = m at *
  clear h2 htab HTAB
  unfold zeroD mk Dat.val
  go_enter Tryz.func68, Tryz.ntmps68
  go_wp2_with fail
  go_quiet (fail)
  go_wp2_with (first
    | (go_at_call 59; refine (HI.out _ ?hW).mono ?_
       case hW => exact below_drewN (below3 w _ _ _) _
       rintro en w2 ⟨rfl, k, os, hw⟩
       have hb2 := below_of_grow hw
       have R2 : Hid (Row w2 (w.heap.size + 1 + 1) 28 zeroC) := (Row.drewN (row_at2 w _ _ 28 zeroC) _).below hb2 (by simp)
       have B2 : Hid (Below w.heap.size w w2) := below_more (below_drewN (below3 w _ _ _) _) hb2 (by simp <;> omega)
       clear hw hb2 HI)
    | (go_at_call 65; refine (fault_any _ _ _).mono ?_; rintro en w3 ⟨g, rfl, hg, hr, hb3⟩
       have R3 : Hid (Row w3 (w.heap.size + 1 + 1) 28 zeroC) := R2.out.below hb3 R2.out.lt
       have B3 : Hid (Below w.heap.size w w3) := below_more B2.out hb3 B2.out.size
       have F3 := Lib.hid hr
       have hgs : Hid (w.heap.size + 1 + 1 < g) := Lib.hid (by have := R2.out.lt; omega)
       clear hr hb3 hg R2 B2)
    | (have ord := B3.out.size; refine put_dat (.tmp 6) (.tmp 92) (w.heap.size + 1 + 1) zeroC zeroD.cells _ rfl rfl rfl rfl R3.out rfl rfl rfl ?_; intro w5 hr5 hb5 hf5
       have B5 : Hid (Below w.heap.size w w5) := B3.out.trans (hb5 _ (by omega))
       have R5 := Lib.hid hr5
       have F5 : Hid (Row w5 g 35 _) := (hf5 g (by have := hgs.out; omega)).trans F3.out
       clear ord B3 R3 hb5 hr5 hf5 F3))
  exact bodyPost_ret (ret_ctt rfl _ _ (w.heap.size + 1 + 1) _ rfl R5.out rfl) rfl ⟨_, rfl, ⟨g, rfl, by have := hgs.out; omega, F5.out⟩, B5.out⟩
end Go.Proofs.YtehakhplglhkdaaGreatDoor
