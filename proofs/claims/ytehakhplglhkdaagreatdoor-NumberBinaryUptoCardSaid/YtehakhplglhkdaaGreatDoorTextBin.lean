/- number.Binary of two texts of one type: put together, too long, and compared with a longer one. -/
import Derived.Test.YtehakhplglhkdaaGreatDoorSmall
import Derived.Test.YtehakhplglhkdaaGreatDoorDivz
import Derived.Lib.AppendIntMem
namespace Go.Proofs.YtehakhplglhkdaaGreatDoor
set_option linter.unusedVariables false
open Go.RowKit

/-- A text of a type. -/
def txt (t s : ByteArray) : Dat := mk 4 t 0 0 s
theorem cmp_front (a b : List UInt8) : Lib.compareBytes a (a ++ b) = 0 ∨ Lib.compareBytes a (a ++ b) = -1 := by
  induction a with
  | nil => cases b <;> simp [Lib.compareBytes]
  | cons x a ih => simpa [Lib.compareBytes] using ih

set_option maxRecDepth 200000 in
set_option maxHeartbeats 2000000 in
theorem txt_add (t x y : ByteArray) (w : World) (h : x.size + y.size ≤ 65536) : Calls Tryz.prog 17 #[.string ⟨#[43]⟩, (txt t x).val, (txt t y).val] w fun e w' => e = .returned (.tuple #[(txt t (x ++ y)).val, .nilIface]) ∧ Below w.heap.size w w' := by
  have h1 : (x.size : Int) + (y.size : Int) ≤ 65536 := by omega
  clear h
  unfold txt mk Dat.val
  go_enter Tryz.func17, Tryz.ntmps17
  go_wp2
  go_returns
  exact ⟨rfl, by go_grown⟩

set_option maxRecDepth 200000 in
set_option maxHeartbeats 2000000 in
theorem txt_le (t x y : ByteArray) (w : World) : Calls Tryz.prog 17 #[.string ⟨#[60, 61]⟩, (txt t x).val, (txt t (x ++ y)).val] w fun e w' => e = .returned (.tuple #[(mk 1 sBool 1 0 ⟨#[]⟩).val, .nilIface]) ∧ Below w.heap.size w w' := by
  have hc := Tryz.strings_Compare x (x ++ y)
  have hl : (x ++ y).data.toList = x.data.toList ++ y.data.toList := by simp
  rw [hl] at hc
  generalize x ++ y = z at *
  clear hl
  unfold txt mk Dat.val
  rcases cmp_front x.data.toList y.data.toList with h | h
  all_goals
    rw [h] at hc
    clear h
    go_enter Tryz.func17, Tryz.ntmps17
    go_wp2_with (first
      | (go_at_call 71; refine (hc _).mono ?_; rintro en w2 ⟨rfl, rfl⟩)
      | go_in)
    go_returns
    exact ⟨rfl, by go_grown⟩

open Go.Sort in
theorem below_of_grow {X w2 : World} {k : Nat} {os : Array Obj} (h : w2 = grow (X.drewN k) os) : Below X.heap.size X w2 := by
  subst h; exact Lib.below_grow _ _ (Nat.le_refl _) k os
def sCount : ByteArray := ⟨#[99, 111, 117, 110, 116]⟩

set_option maxRecDepth 200000 in
set_option maxHeartbeats 1000000 in
theorem txt_count43 (t x y : ByteArray) (w : World) (h : 65536 < x.size + y.size) (hx : x.size ≤ 4611686018427387903) (hy : y.size ≤ 4611686018427387903) (htab : Lib.TabIs Tryz.prog w "internal/strconv.uint64pow10" .u64 Lib.pow10Tab) :
    Calls Tryz.prog 43 #[.string ⟨#[43]⟩, (txt t x).val, (txt t y).val] w fun e w' => ∃ v m, e = .returned (.tuple #[zeroD.val, .bool false, v]) ∧ IsFault w w' v sCount m ∧ Below w.heap.size w w' := by
  have HTAB := Lib.hid (Lib.tabBelow_of_tabIs htab)
  have h1 : (65536 : Int) < (x.size : Int) + (y.size : Int) := by omega
  have h2 : (x.size : Int) + (y.size : Int) ≤ 9223372036854775806 := by omega
  clear h hx hy htab
  unfold txt mk Dat.val
  have hm1 : True := trivial
  go_enter Tryz.func43, Tryz.ntmps43
  go_wp2_with (first
    | (go_at_call 59; refine (Tryz.strconv_Itoa _ ?ha ?hb _ ?ht).mono ?_
       case ha => omega
       case hb => omega
       case ht => exact HTAB.out _ (below3 w _ _ _)
       rintro en w2 ⟨rfl, k, os, hw⟩
       have hb := below_of_grow hw
       have hR2 : Hid (Row w2 (w.heap.size + 1 + 1) 28 zeroC) := (row_at2 w _ _ 28 zeroC).below hb (by simp)
       have hB2 : Hid (Below w.heap.size w w2) := below_more (below3 w _ _ _) hb (by simp; omega)
       have hs2 : w.heap.size + 1 + 1 < w2.heap.size := by have := hb.size; simp at this; omega
       clear hw hb HTAB)
    | (go_at_call 65; refine (fault_any _ _ _).mono ?_; rintro en w3 ⟨g, rfl, hg, hr, hb⟩
       have hR3 : Hid (Row w3 (w.heap.size + 1 + 1) 28 zeroC) := hR2.out.below hb hs2
       have hB3 : Hid (Below w.heap.size w w3) := below_more hB2.out hb hB2.out.size
       have hF3 := Lib.hid hr
       have hgs : w.heap.size + 1 + 1 < g := by omega
       clear hr hb hg hR2 hB2 hs2)
    | (refine put_dat (.tmp 6) (.tmp 68) (w.heap.size + 1 + 1) zeroC zeroD.cells w3 rfl rfl rfl rfl hR3.out rfl rfl rfl ?_; intro w5 hr5 hb5 hf5
       have hB5 := Lib.hid (hB3.out.trans (hb5 _ (by omega)))
       have hR5 := Lib.hid hr5
       have hF5 := Lib.hid ((hf5 g (by omega)).trans hF3.out)
       clear hB3 hR3 hb5 hr5 hf5 hF3))
  refine bodyPost_ret (ret_ctt rfl _ _ (w.heap.size + 1 + 1) _ rfl hR5.out rfl) rfl ⟨_, _, rfl, ⟨g, rfl, by omega, hF5.out⟩, hB5.out⟩

set_option maxRecDepth 200000 in
set_option maxHeartbeats 1000000 in
theorem txt_count (t x y : ByteArray) (w : World) (h : 65536 < x.size + y.size) (hx : x.size ≤ 4611686018427387903) (hy : y.size ≤ 4611686018427387903) (htab : Lib.TabIs Tryz.prog w "internal/strconv.uint64pow10" .u64 Lib.pow10Tab) :
    Calls Tryz.prog 17 #[.string ⟨#[43]⟩, (txt t x).val, (txt t y).val] w fun e w' => ∃ v m, e = .returned (.tuple #[zeroD.val, v]) ∧ IsFault w w' v sCount m ∧ Below w.heap.size w w' := by
  have HTAB := Lib.hid (Lib.tabBelow_of_tabIs htab)
  have HI := Lib.hid fun W (hW : Below w.heap.size w W) => txt_count43 t x y W h hx hy (HTAB.out _ hW)
  clear h hx hy htab HTAB
  unfold txt mk Dat.val at HI ⊢
  go_enter Tryz.func17, Tryz.ntmps17
  go_wp2_with (first
    | (go_at_call 43; refine (HI.out _ ?hW).mono ?_
       case hW => exact below3 w _ _ _
       rintro en w2 ⟨v, m, rfl, ⟨g, rfl, hg, hr⟩, hb⟩
       have hR2 : Hid (Row w2 (w.heap.size + 1 + 1) 28 zeroC) := (row_at2 w _ _ 28 zeroC).below hb (by simp)
       have hB2 : Hid (Below w.heap.size w w2) := below_more (below3 w _ _ _) hb (by simp; omega)
       have hF2 := Lib.hid hr
       have hgs : w.heap.size + 1 + 1 < g := by simp at hg; omega
       clear hr hb hg HI)
    | (refine put_dat (.tmp 6) (.tmp 36) (w.heap.size + 1 + 1) zeroC zeroD.cells (w2.alloc (.cells zeroC.toArray 28)) rfl rfl rfl rfl (hR2.out.alloc _) rfl rfl rfl ?_; intro w5 hr5 hb5 hf5
       have hB5 : Hid (Below w.heap.size w w5) := (below_more hB2.out (below1 _ _) hB2.out.size).trans (hb5 _ (by omega))
       have hR5 := Lib.hid hr5
       have hF5 : Hid (Row w5 g 35 [.string sCount, .string m]) := (hf5 g (by omega)).trans (hF2.out.alloc _)
       clear hB2 hR2 hb5 hr5 hf5 hF2))
  refine bodyPost_ret (ret_ct rfl _ _ (w.heap.size + 1 + 1) _ rfl hR5.out rfl) rfl ⟨_, _, rfl, ⟨g, rfl, by omega, hF5.out⟩, hB5.out⟩

set_option maxRecDepth 200000 in
set_option maxHeartbeats 1000000 in
/-- says of a text and a longer one. -/
theorem says_le (t x y : ByteArray) (w : World) : Calls Tryz.prog 31 #[.string ⟨#[60, 61]⟩, (txt t x).val, (txt t (x ++ y)).val] w fun e w' => e = .returned (.tuple #[.bool true, .bool true]) ∧ Below w.heap.size w w' := by
  have hc := fun w => txt_le t x y w
  generalize x ++ y = z at *
  unfold txt mk Dat.val at *
  unfold sBool at hc
  go_enter Tryz.func31, Tryz.ntmps31
  go_wp2_with (first
    | (go_at_call 17; refine (hc _).mono ?_; rintro en w2 ⟨rfl, hb⟩
       have HB2 : Hid (Below w.heap.size w w2) := below_more (below2 w _ _) hb (by simp; omega)
       have hlt := HB2.out.size
       clear hb hc))
  go_quiet (fail)
  go_wp2
  go_returns
  refine And.intro rfl ?_
  with_reducible refine below_drewN ?_ _
  exact below_more HB2.out (below1 _ _) HB2.out.size
end Go.Proofs.YtehakhplglhkdaaGreatDoor
