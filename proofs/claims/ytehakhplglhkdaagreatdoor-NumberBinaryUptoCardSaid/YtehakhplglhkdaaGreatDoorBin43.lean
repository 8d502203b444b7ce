/- number.binary at any two data of one kind and type: ints by number.ints, texts, other kinds. Conditions: as said. -/
import Derived.Test.YtehakhplglhkdaaGreatDoorBin17
import Derived.Test.YtehakhplglhkdaaGreatDoorUnaryA
import Derived.Test.YtehakhplglhkdaaGreatDoorTextBin
namespace Go.Proofs.YtehakhplglhkdaaGreatDoor
set_option linter.unusedVariables false
open Go.RowKit

set_option maxRecDepth 200000 in
set_option maxHeartbeats 2000000 in
theorem b43_ok (op : ByteArray) (t s : ByteArray) (n f ro rf rl rc : Int) (pa ia : Option Addr) (pn pc iN ic : Nat) (s2 : ByteArray) (n2 f2 ro2 rf2 rl2 rc2 : Int) (pa2 ia2 : Option Addr) (pn2 pc2 iN2 ic2 : Nat) (d : Dat) (is : Bool) (w : World)
    (hf : ∀ w, Calls Tryz.prog 68 #[.string op, (Dat.mk 2 t n f s ro rf rl rc pa pn pc ia iN ic).val, (Dat.mk 2 t n2 f2 s2 ro2 rf2 rl2 rc2 pa2 pn2 pc2 ia2 iN2 ic2).val] w fun e w' => e = .returned (.tuple #[d.val, .bool is, .nilIface]) ∧ Below w.heap.size w w') :
    Calls Tryz.prog 43 #[.string op, (Dat.mk 2 t n f s ro rf rl rc pa pn pc ia iN ic).val, (Dat.mk 2 t n2 f2 s2 ro2 rf2 rl2 rc2 pa2 pn2 pc2 ia2 iN2 ic2).val] w fun e w' => e = .returned (.tuple #[d.val, .bool is, .nilIface]) ∧ Below w.heap.size w w' := by
  have HF := Lib.hid hf
  clear hf
  unfold Dat.val at *
  go_enter Tryz.func43, Tryz.ntmps43
  go_wp2_with (first
    | (go_at_call 68; refine (HF.out _).mono ?_; rintro en w2 ⟨rfl, hb⟩
       have R2 : Hid (Row w2 (w.heap.size + 1 + 1) 28 zeroC) := (row_at2 w _ _ 28 zeroC).below hb (by simp)
       have B2 : Hid (Below w.heap.size w w2) := below_more (below3 w _ _ _) hb (by simp <;> omega)
       clear hb HF)
    | (refine put_dat (.tmp 6) (.tmp 22) (w.heap.size + 1 + 1) zeroC d.cells _ rfl rfl rfl rfl R2.out rfl rfl rfl ?_; intro w5 hr5 hb5 hf5
       have B5 : Hid (Below w.heap.size w w5) := B2.out.trans (hb5 _ (by omega))
       have R5 := Lib.hid hr5
       clear B2 R2 hb5 hr5 hf5))
  exact bodyPost_ret (ret_ctt rfl _ _ (w.heap.size + 1 + 1) _ rfl R5.out rfl) rfl ⟨rfl, B5.out⟩
set_option maxRecDepth 200000 in
set_option maxHeartbeats 2000000 in
theorem b43_err (op x y : ByteArray) (t s : ByteArray) (n f ro rf rl rc : Int) (pa ia : Option Addr) (pn pc iN ic : Nat) (s2 : ByteArray) (n2 f2 ro2 rf2 rl2 rc2 : Int) (pa2 ia2 : Option Addr) (pn2 pc2 iN2 ic2 : Nat) (w : World)
    (hf : ∀ W, Below w.heap.size w W → Calls Tryz.prog 68 #[.string op, (Dat.mk 2 t n f s ro rf rl rc pa pn pc ia iN ic).val, (Dat.mk 2 t n2 f2 s2 ro2 rf2 rl2 rc2 pa2 pn2 pc2 ia2 iN2 ic2).val] W fun e w' => ∃ v, e = .returned (.tuple #[zeroD.val, .bool false, v]) ∧ IsFault W w' v x y ∧ Below W.heap.size W w') :
    Calls Tryz.prog 43 #[.string op, (Dat.mk 2 t n f s ro rf rl rc pa pn pc ia iN ic).val, (Dat.mk 2 t n2 f2 s2 ro2 rf2 rl2 rc2 pa2 pn2 pc2 ia2 iN2 ic2).val] w fun e w' => ∃ v, e = .returned (.tuple #[zeroD.val, .bool false, v]) ∧ IsFault w w' v x y ∧ Below w.heap.size w w' := by
  have HF := Lib.hid hf
  clear hf
  unfold zeroD mk Dat.val at *
  go_enter Tryz.func43, Tryz.ntmps43
  go_wp2_with (first
    | (go_at_call 68; refine (HF.out _ ?hW).mono ?_
       case hW => exact below3 w _ _ _
       rintro en w2 ⟨v, rfl, ⟨g, rfl, hg, hr⟩, hb⟩
       have R2 : Hid (Row w2 (w.heap.size + 1 + 1) 28 zeroC) := (row_at2 w _ _ 28 zeroC).below hb (by simp)
       have B2 : Hid (Below w.heap.size w w2) := below_more (below3 w _ _ _) hb (by simp <;> omega)
       have F2 := Lib.hid hr
       have hgs : Hid (w.heap.size + 1 + 1 < g) := Lib.hid (by simp at hg; omega)
       clear hb HF hr hg)
    | (refine put_dat (.tmp 6) (.tmp 22) (w.heap.size + 1 + 1) zeroC zeroD.cells _ rfl rfl rfl rfl R2.out rfl rfl rfl ?_; intro w5 hr5 hb5 hf5
       have B5 : Hid (Below w.heap.size w w5) := B2.out.trans (hb5 _ (by omega))
       have R5 := Lib.hid hr5
       have F5 : Hid (Row w5 g 35 [.string x, .string y]) := (hf5 g (by have := hgs.out; omega)).trans F2.out
       clear B2 R2 hb5 hr5 hf5 F2))
  exact bodyPost_ret (ret_ctt rfl _ _ (w.heap.size + 1 + 1) _ rfl R5.out rfl) rfl ⟨_, rfl, ⟨g, rfl, by have := hgs.out; omega, F5.out⟩, B5.out⟩
set_option maxRecDepth 200000 in
set_option maxHeartbeats 2000000 in
theorem b43_cat (t s : ByteArray) (n f ro rf rl rc : Int) (pa ia : Option Addr) (pn pc iN ic : Nat) (s2 : ByteArray) (n2 f2 ro2 rf2 rl2 rc2 : Int) (pa2 ia2 : Option Addr) (pn2 pc2 iN2 ic2 : Nat) (w : World) (h : s.size + s2.size ≤ 65536) :
    Calls Tryz.prog 43 #[.string ⟨#[43]⟩, (Dat.mk 4 t n f s ro rf rl rc pa pn pc ia iN ic).val, (Dat.mk 4 t n2 f2 s2 ro2 rf2 rl2 rc2 pa2 pn2 pc2 ia2 iN2 ic2).val] w fun e w' => e = .returned (.tuple #[(mk 4 t 0 0 (s ++ s2)).val, .bool true, .nilIface]) ∧ Below w.heap.size w w' := by
  have h1 : (s.size : Int) + (s2.size : Int) ≤ 65536 := by omega
  clear h
  unfold mk Dat.val
  go_enter Tryz.func43, Tryz.ntmps43
  go_wp2
  go_returns
  exact ⟨rfl, by go_grown⟩
set_option maxRecDepth 200000 in
set_option maxHeartbeats 2000000 in
theorem b43_long (t s : ByteArray) (n f ro rf rl rc : Int) (pa ia : Option Addr) (pn pc iN ic : Nat) (s2 : ByteArray) (n2 f2 ro2 rf2 rl2 rc2 : Int) (pa2 ia2 : Option Addr) (pn2 pc2 iN2 ic2 : Nat) (w : World) (h : 65536 < s.size + s2.size) (hx : s.size + s2.size ≤ 4611686018427387903) (htab : Lib.TabIs Tryz.prog w "internal/strconv.uint64pow10" .u64 Lib.pow10Tab) :
    Calls Tryz.prog 43 #[.string ⟨#[43]⟩, (Dat.mk 4 t n f s ro rf rl rc pa pn pc ia iN ic).val, (Dat.mk 4 t n2 f2 s2 ro2 rf2 rl2 rc2 pa2 pn2 pc2 ia2 iN2 ic2).val] w fun e w' => ∃ v, e = .returned (.tuple #[zeroD.val, .bool false, v]) ∧ IsFault w w' v sCount ⟨(Lib.itoa ((s.size : Int) + (s2.size : Int))).toArray⟩ ∧ Below w.heap.size w w' := by
  have HTAB := Lib.hid (Lib.tabBelow_of_tabIs htab)
  have h1 : (65536 : Int) < (s.size : Int) + (s2.size : Int) := by omega
  have h2 : (s.size : Int) + (s2.size : Int) ≤ 9223372036854775806 := by omega
  have HI := Lib.hid fun W (hW : Below w.heap.size w W) => Tryz.strconv_Itoa ((s.size : Int) + (s2.size : Int)) (by omega) (by omega) W (HTAB.out W hW)
  generalize (⟨(Lib.itoa ((s.size : Int) + (s2.size : Int))).toArray⟩ : ByteArray) = m at *
  clear h hx htab HTAB
  unfold zeroD mk Dat.val
  go_enter Tryz.func43, Tryz.ntmps43
  go_wp2_with (first
    | (go_at_call 59; refine (HI.out _ (below3 w _ _ _)).mono ?_
       rintro en w2 ⟨rfl, k, os, hw⟩
       have hb := below_of_grow hw
       have R2 : Hid (Row w2 (w.heap.size + 1 + 1) 28 zeroC) := (row_at2 w _ _ 28 zeroC).below hb (by simp)
       have B2 : Hid (Below w.heap.size w w2) := below_more (below3 w _ _ _) hb (by simp <;> omega)
       clear hw hb HI)
    | (go_at_call 65; refine (fault_any _ _ _).mono ?_; rintro en w3 ⟨g, rfl, hg, hr, hb⟩
       have R3 : Hid (Row w3 (w.heap.size + 1 + 1) 28 zeroC) := R2.out.below hb R2.out.lt
       have B3 : Hid (Below w.heap.size w w3) := below_more B2.out hb B2.out.size
       have F3 := Lib.hid hr
       have hgs : Hid (w.heap.size + 1 + 1 < g) := Lib.hid (by have := R2.out.lt; omega)
       clear hr hb hg R2 B2)
    | (refine put_dat (.tmp 6) (.tmp 68) (w.heap.size + 1 + 1) zeroC zeroD.cells _ rfl rfl rfl rfl R3.out rfl rfl rfl ?_; intro w5 hr5 hb5 hf5
       have B5 : Hid (Below w.heap.size w w5) := B3.out.trans (hb5 _ (by omega))
       have R5 := Lib.hid hr5
       have F5 : Hid (Row w5 g 35 _) := (hf5 g (by have := hgs.out; omega)).trans F3.out
       clear B3 R3 hb5 hr5 hf5 F3))
  exact bodyPost_ret (ret_ctt rfl _ _ (w.heap.size + 1 + 1) _ rfl R5.out rfl) rfl ⟨_, rfl, ⟨g, rfl, by have := hgs.out; omega, F5.out⟩, B5.out⟩
set_option maxRecDepth 200000 in
set_option maxHeartbeats 2000000 in
theorem b43_cmp (op : ByteArray) (t s : ByteArray) (n f ro rf rl rc : Int) (pa ia : Option Addr) (pn pc iN ic : Nat) (s2 : ByteArray) (n2 f2 ro2 rf2 rl2 rc2 : Int) (pa2 ia2 : Option Addr) (pn2 pc2 iN2 ic2 : Nat) (c : Int) (r ok : Bool) (w : World) (hop : (op.toList == [43]) = false) (hop2 : (op.toList != [43]) = true) (hc : Lib.compareBytes s.data.toList s2.data.toList = c)
    (hO : ∀ w, Calls Tryz.prog 70 #[.string op, .int .i64 c] w fun e w' => e = .returned (.tuple #[.bool r, .bool ok]) ∧ w' = w) :
    Calls Tryz.prog 43 #[.string op, (Dat.mk 4 t n f s ro rf rl rc pa pn pc ia iN ic).val, (Dat.mk 4 t n2 f2 s2 ro2 rf2 rl2 rc2 pa2 pn2 pc2 ia2 iN2 ic2).val] w fun e w' => e = .returned (.tuple #[(yes r).val, .bool ok, .nilIface]) ∧ Below w.heap.size w w' := by
  have hcc := Tryz.strings_Compare s s2
  rw [hc] at hcc
  have HC := Lib.hid hcc
  have HO := Lib.hid hO
  clear hc hcc hO
  unfold yes sBool mk Dat.val
  cases r
  all_goals
    go_enter Tryz.func43, Tryz.ntmps43
    go_wp2_with (first
      | (go_at_call 71; refine (HC.out _).mono ?_; rintro en w2 ⟨rfl, rfl⟩; clear HC)
      | (go_at_call 70; refine (HO.out _).mono ?_; rintro en w2 ⟨rfl, rfl⟩; clear HO)
      | go_in)
    go_returns
    exact ⟨rfl, by go_grown⟩
set_option maxRecDepth 200000 in
set_option maxHeartbeats 2000000 in
theorem b43_none (op : ByteArray) (k : Int) (t s : ByteArray) (n f ro rf rl rc : Int) (pa ia : Option Addr) (pn pc iN ic : Nat) (s2 : ByteArray) (n2 f2 ro2 rf2 rl2 rc2 : Int) (pa2 ia2 : Option Addr) (pn2 pc2 iN2 ic2 : Nat) (w : World) (h2 : (k == 2) = false) (h3 : (k == 3) = false) (h4 : (k == 4) = false) :
    Calls Tryz.prog 43 #[.string op, (Dat.mk k t n f s ro rf rl rc pa pn pc ia iN ic).val, (Dat.mk k t n2 f2 s2 ro2 rf2 rl2 rc2 pa2 pn2 pc2 ia2 iN2 ic2).val] w fun e w' => e = .returned (.tuple #[zeroD.val, .bool false, .nilIface]) ∧ Below w.heap.size w w' := by
  unfold zeroD mk Dat.val
  go_enter Tryz.func43, Tryz.ntmps43
  go_wp2
  go_returns
  exact ⟨rfl, by go_grown⟩
theorem ord_lt_n (w : World) : Calls Tryz.prog 70 #[.string ⟨#[60]⟩, .int .i64 (-1)] w fun e w' => e = .returned (.tuple #[.bool true, .bool true]) ∧ w' = w := by
  go_enter Tryz.func70, Tryz.ntmps70
  go_wp2
  go_returns
  exact ⟨rfl, rfl⟩
theorem ord_lt_z (w : World) : Calls Tryz.prog 70 #[.string ⟨#[60]⟩, .int .i64 0] w fun e w' => e = .returned (.tuple #[.bool false, .bool true]) ∧ w' = w := by
  go_enter Tryz.func70, Tryz.ntmps70
  go_wp2
  go_returns
  exact ⟨rfl, rfl⟩
theorem ord_lt_p (w : World) : Calls Tryz.prog 70 #[.string ⟨#[60]⟩, .int .i64 1] w fun e w' => e = .returned (.tuple #[.bool false, .bool true]) ∧ w' = w := by
  go_enter Tryz.func70, Tryz.ntmps70
  go_wp2
  go_returns
  exact ⟨rfl, rfl⟩
theorem ord_le_n (w : World) : Calls Tryz.prog 70 #[.string ⟨#[60, 61]⟩, .int .i64 (-1)] w fun e w' => e = .returned (.tuple #[.bool true, .bool true]) ∧ w' = w := by
  go_enter Tryz.func70, Tryz.ntmps70
  go_wp2
  go_returns
  exact ⟨rfl, rfl⟩
theorem ord_le_z (w : World) : Calls Tryz.prog 70 #[.string ⟨#[60, 61]⟩, .int .i64 0] w fun e w' => e = .returned (.tuple #[.bool true, .bool true]) ∧ w' = w := by
  go_enter Tryz.func70, Tryz.ntmps70
  go_wp2
  go_returns
  exact ⟨rfl, rfl⟩
theorem ord_le_p (w : World) : Calls Tryz.prog 70 #[.string ⟨#[60, 61]⟩, .int .i64 1] w fun e w' => e = .returned (.tuple #[.bool false, .bool true]) ∧ w' = w := by
  go_enter Tryz.func70, Tryz.ntmps70
  go_wp2
  go_returns
  exact ⟨rfl, rfl⟩
theorem ord_gt_n (w : World) : Calls Tryz.prog 70 #[.string ⟨#[62]⟩, .int .i64 (-1)] w fun e w' => e = .returned (.tuple #[.bool false, .bool true]) ∧ w' = w := by
  go_enter Tryz.func70, Tryz.ntmps70
  go_wp2
  go_returns
  exact ⟨rfl, rfl⟩
theorem ord_gt_z (w : World) : Calls Tryz.prog 70 #[.string ⟨#[62]⟩, .int .i64 0] w fun e w' => e = .returned (.tuple #[.bool false, .bool true]) ∧ w' = w := by
  go_enter Tryz.func70, Tryz.ntmps70
  go_wp2
  go_returns
  exact ⟨rfl, rfl⟩
theorem ord_gt_p (w : World) : Calls Tryz.prog 70 #[.string ⟨#[62]⟩, .int .i64 1] w fun e w' => e = .returned (.tuple #[.bool true, .bool true]) ∧ w' = w := by
  go_enter Tryz.func70, Tryz.ntmps70
  go_wp2
  go_returns
  exact ⟨rfl, rfl⟩
theorem ord_ge_n (w : World) : Calls Tryz.prog 70 #[.string ⟨#[62, 61]⟩, .int .i64 (-1)] w fun e w' => e = .returned (.tuple #[.bool false, .bool true]) ∧ w' = w := by
  go_enter Tryz.func70, Tryz.ntmps70
  go_wp2
  go_returns
  exact ⟨rfl, rfl⟩
theorem ord_ge_z (w : World) : Calls Tryz.prog 70 #[.string ⟨#[62, 61]⟩, .int .i64 0] w fun e w' => e = .returned (.tuple #[.bool true, .bool true]) ∧ w' = w := by
  go_enter Tryz.func70, Tryz.ntmps70
  go_wp2
  go_returns
  exact ⟨rfl, rfl⟩
theorem ord_ge_p (w : World) : Calls Tryz.prog 70 #[.string ⟨#[62, 61]⟩, .int .i64 1] w fun e w' => e = .returned (.tuple #[.bool true, .bool true]) ∧ w' = w := by
  go_enter Tryz.func70, Tryz.ntmps70
  go_wp2
  go_returns
  exact ⟨rfl, rfl⟩
theorem ord_no (op : ByteArray) (c : Int) (w : World) (h1 : (op.toList == [60]) = false) (h2 : (op.toList == [60, 61]) = false) (h3 : (op.toList == [62]) = false) (h4 : (op.toList == [62, 61]) = false) :
    Calls Tryz.prog 70 #[.string op, .int .i64 c] w fun e w' => e = .returned (.tuple #[.bool false, .bool false]) ∧ w' = w := by
  go_enter Tryz.func70, Tryz.ntmps70
  go_wp2
  go_returns
  exact ⟨rfl, rfl⟩
end Go.Proofs.YtehakhplglhkdaaGreatDoor
