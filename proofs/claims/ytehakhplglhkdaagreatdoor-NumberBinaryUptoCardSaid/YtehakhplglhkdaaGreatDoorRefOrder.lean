/- guiseref6.order of two ints, floats, texts. Conditions: the texts are of a size that an int holds. -/
import Derived.Test.YtehakhplglhkdaaGreatDoorUnaryR
import Derived.Test.YtehakhplglhkdaaGreatDoorCmpTextA
import Derived.Deep.QuietTactic
import Derived.BigQuiet
namespace Go.Proofs.YtehakhplglhkdaaGreatDoor
set_option linter.unusedVariables false
open Go.RowKit

set_option maxRecDepth 200000 in
set_option maxHeartbeats 2000000 in
theorem ro_int (t s : ByteArray) (n f ro rf rl rc : Int) (pa ia : Option Addr) (pn pc iN ic : Nat) (s2 : ByteArray) (n2 f2 ro2 rf2 rl2 rc2 : Int) (pa2 ia2 : Option Addr) (pn2 pc2 iN2 ic2 : Nat) (w : World) : Calls Tryz.prog 45 #[(Dat.mk 2 t n f s ro rf rl rc pa pn pc ia iN ic).val, (Dat.mk 2 t n2 f2 s2 ro2 rf2 rl2 rc2 pa2 pn2 pc2 ia2 iN2 ic2).val] w fun e w' => e = .returned (.tuple #[.bool (decide (n < n2)), .bool (decide (n2 < n)), .bool true]) ∧ Below w.heap.size w w' := by
  unfold Dat.val
  go_enter Tryz.func45, Tryz.ntmps45
  go_wp2
  go_quiet (fail)
  go_wp2
  go_returns
  refine And.intro rfl ?_
  go_grown
  all_goals (with_reducible refine below_drewN ?_ _)
  go_grown
set_option maxRecDepth 200000 in
set_option maxHeartbeats 2000000 in
theorem ro_flt (t s : ByteArray) (n f ro rf rl rc : Int) (pa ia : Option Addr) (pn pc iN ic : Nat) (s2 : ByteArray) (n2 f2 ro2 rf2 rl2 rc2 : Int) (pa2 ia2 : Option Addr) (pn2 pc2 iN2 ic2 : Nat) (lt gt kx ky : Bool) (h1 : (FloatKind.f64.format.order f.toNat f2.toNat == some .lt) = lt) (h2 : (FloatKind.f64.format.order f.toNat f2.toNat == some .gt) = gt) (h3 : (FloatKind.f64.format.order f.toNat f.toNat == some .eq) = kx) (h4 : (FloatKind.f64.format.order f2.toNat f2.toNat == some .eq) = ky) (w : World) :
    Calls Tryz.prog 45 #[(Dat.mk 3 t n f s ro rf rl rc pa pn pc ia iN ic).val, (Dat.mk 3 t n2 f2 s2 ro2 rf2 rl2 rc2 pa2 pn2 pc2 ia2 iN2 ic2).val] w fun e w' => e = .returned (.tuple #[.bool lt, .bool gt, .bool (kx && ky)]) ∧ Below w.heap.size w w' := by
  unfold Dat.val
  cases kx <;> cases ky <;>
  · go_enter Tryz.func45, Tryz.ntmps45
    go_wp2
    go_returns
    exact ⟨rfl, by go_grown⟩
theorem cmp_drop (a b : List UInt8) (k : Nat) (h : a.take k = b.take k) (ha : k ≤ a.length) (hb : k ≤ b.length) : Lib.compareBytes a b = Lib.compareBytes (a.drop k) (b.drop k) := by
  induction k generalizing a b with
  | zero => rfl
  | succ k ih =>
    match a, b, ha, hb with
    | x :: a, y :: b, ha, hb =>
      simp only [List.take_succ_cons, List.cons.injEq] at h
      obtain ⟨rfl, h⟩ := h
      rw [List.drop_succ_cons, List.drop_succ_cons, ← ih a b h (by simpa using ha) (by simpa using hb)]
      simp [Lib.compareBytes]
theorem cmp_head (x y : UInt8) (a b : List UInt8) (h : x ≠ y) : Lib.compareBytes (x :: a) (y :: b) = if x.toNat < y.toNat then -1 else 1 := by
  have hn : x.toNat ≠ y.toNat := fun e => h (UInt8.toNat_inj.1 e)
  unfold Lib.compareBytes
  by_cases hlt : x.toNat < y.toNat
  · have h1 : x < y := UInt8.lt_iff_toNat_lt.2 hlt
    simp [h1, hlt]
  · have h1 : ¬ x < y := fun e => hlt (UInt8.lt_iff_toNat_lt.1 e)
    have h2 : y < x := UInt8.lt_iff_toNat_lt.2 (by omega)
    simp [h1, h2, hlt]
theorem cmp_nil_left (b : List UInt8) : Lib.compareBytes [] b = if 0 < b.length then -1 else 0 := by
  cases b <;> simp [Lib.compareBytes]
theorem cmp_nil_right (a : List UInt8) : Lib.compareBytes a [] = if 0 < a.length then 1 else 0 := by
  cases a <;> simp [Lib.compareBytes]
theorem take_more (a b : List UInt8) (k : Nat) (h : a.take k = b.take k) (ha : k < a.length) (hb : k < b.length) (he : a[k] = b[k]) : a.take (k + 1) = b.take (k + 1) := by
  rw [List.take_add_one, List.take_add_one, h, List.getElem?_eq_getElem ha, List.getElem?_eq_getElem hb, he]
set_option maxRecDepth 200000 in
set_option maxHeartbeats 4000000 in
theorem ro_txt (t s : ByteArray) (n f ro rf rl rc : Int) (pa ia : Option Addr) (pn pc iN ic : Nat) (s2 : ByteArray) (n2 f2 ro2 rf2 rl2 rc2 : Int) (pa2 ia2 : Option Addr) (pn2 pc2 iN2 ic2 : Nat) (w : World) (hs1 : s.size ≤ 9223372036854775806) (hs2 : s2.size ≤ 9223372036854775806) (be ab : Bool)
    (hbe : be = decide (Lib.compareBytes s.data.toList s2.data.toList < 0)) (hab : ab = decide (0 < Lib.compareBytes s.data.toList s2.data.toList)) :
    Calls Tryz.prog 45 #[(Dat.mk 4 t n f s ro rf rl rc pa pn pc ia iN ic).val, (Dat.mk 4 t n2 f2 s2 ro2 rf2 rl2 rc2 pa2 pn2 pc2 ia2 iN2 ic2).val] w fun e w' => e = .returned (.tuple #[.bool be, .bool ab, .bool true]) ∧ Below w.heap.size w w' := by
  have HBE := Lib.hid hbe
  have HAB := Lib.hid hab
  have l1 : s.data.toList.length = s.size := Array.length_toList
  have l2 : s2.data.toList.length = s2.size := Array.length_toList
  have HL1 := Lib.hid l1
  have HL2 := Lib.hid l2
  clear hbe hab l1 l2
  unfold Dat.val
  go_enter Tryz.func45, Tryz.ntmps45
  go_wp2_with fail
  obtain ⟨w1, RA, RB, HB, e⟩ : ∃ w1, Row w1 w.heap.size 28 [.int .i64 4, .string t, .int .i64 n, .int .u64 f, .string s, .int .i64 ro, .int .i64 rf, .int .i64 rl, .int .i64 rc, .slice pa pn pc, .slice ia iN ic] ∧ Row w1 (w.heap.size + 1) 28 [.int .i64 4, .string t, .int .i64 n2, .int .u64 f2, .string s2, .int .i64 ro2, .int .i64 rf2, .int .i64 rl2, .int .i64 rc2, .slice pa2 pn2 pc2, .slice ia2 iN2 ic2] ∧ Below w.heap.size w w1 ∧ ((w.alloc (.cells ([.int .i64 4, .string t, .int .i64 n, .int .u64 f, .string s, .int .i64 ro, .int .i64 rf, .int .i64 rl, .int .i64 rc, .slice pa pn pc, .slice ia iN ic] : List Value).toArray 28)).alloc (.cells ([.int .i64 4, .string t, .int .i64 n2, .int .u64 f2, .string s2, .int .i64 ro2, .int .i64 rf2, .int .i64 rl2, .int .i64 rc2, .slice pa2 pn2 pc2, .slice ia2 iN2 ic2] : List Value).toArray 28)) = w1 :=
    ⟨_, (Row.made w 28 _).alloc _, row_atOne w _ 28 _, below2 w _ _, rfl⟩
  rw [e]
  clear e
  have k1 := RA.cell 4
  have k2 := RB.cell 4
  simp only [List.getElem?_cons_zero, List.getElem?_cons_succ] at k1 k2
  replace HB := Lib.hid HB
  clear RA RB
  go_loopw [9] (fun i wr => ∃ k m : Nat, i = .int .i64 k ∧ k ≤ s.size ∧ k ≤ s2.size ∧ Hid (s.data.toList.take k = s2.data.toList.take k) ∧ Hid (wr = w1.drewN m)) (fun i _ => s.size - (intOf i).toNat)
  case atStart => exact ⟨0, 0, rfl, Nat.zero_le _, Nat.zero_le _, rfl, rfl⟩
  case round =>
    obtain ⟨k, m, rfl, ha, hb, HT, H⟩ := hrel
    obtain rfl := H.out
    clear H
    by_cases h1 : k < s.size ∧ k < s2.size
    · obtain ⟨ha', hb'⟩ := h1
      have i1 : (0 : Int) ≤ (k : Int) ∧ (k : Int) < (s.size : Int) := by omega
      have i2 : (0 : Int) ≤ (k : Int) ∧ (k : Int) < (s2.size : Int) := by omega
      have c1 : decide ((k : Int) < (s.size : Int)) = true := decide_eq_true i1.2
      have c2 : decide ((k : Int) < (s2.size : Int)) = true := decide_eq_true i2.2
      have g1 : s.data.toList[k]'(by rw [HL1.out]; exact ha') = s[k] := by simp; rfl
      have g2 : s2.data.toList[k]'(by rw [HL2.out]; exact hb') = s2[k] := by simp; rfl
      by_cases he : s[k] = s2[k]
      · have e1 : ((s[k].toNat : Int) != (s2[k].toNat : Int)) = false := by rw [he]; simp
        have HT2 : Hid (s.data.toList.take (k + 1) = s2.data.toList.take (k + 1)) := take_more _ _ k HT.out (by rw [HL1.out]; exact ha') (by rw [HL2.out]; exact hb') (by rw [g1, g2]; exact he)
        clear he g1 g2
        go_wp2
        go_quiet (fail)
        go_wp2
        go_roundw
        case rel => exact ⟨k + 1, _, by go_num, by omega, by omega, HT2, rfl⟩
        case measure => simp [intOf]; omega
      · have hc : Lib.compareBytes s.data.toList s2.data.toList = if s[k].toNat < s2[k].toNat then -1 else 1 := by
          have d1 : s.data.toList.drop k = s[k] :: s.data.toList.drop (k + 1) := by rw [List.drop_eq_getElem_cons (by rw [HL1.out]; exact ha'), g1]
          have d2 : s2.data.toList.drop k = s2[k] :: s2.data.toList.drop (k + 1) := by rw [List.drop_eq_getElem_cons (by rw [HL2.out]; exact hb'), g2]
          rw [cmp_drop _ _ k HT.out (by rw [HL1.out]; omega) (by rw [HL2.out]; omega), d1, d2]
          exact cmp_head _ _ _ _ he
        have hne : s[k].toNat ≠ s2[k].toNat := fun e => he (UInt8.toNat_inj.1 e)
        have e1 : ((s[k].toNat : Int) != (s2[k].toNat : Int)) = true := by simp; omega
        have hB := HBE.out
        have hA := HAB.out
        rw [hc] at hB hA
        by_cases hlt : s[k].toNat < s2[k].toNat
        · rw [if_pos hlt] at hB hA
          have q1 : decide ((s[k].toNat : Int) < (s2[k].toNat : Int)) = true := decide_eq_true (by omega)
          have q2 : decide ((s2[k].toNat : Int) < (s[k].toNat : Int)) = false := decide_eq_false (by omega)
          have HX := Lib.hid hlt
          obtain rfl : be = true := by rw [hB]; decide
          obtain rfl : ab = false := by rw [hA]; decide
          clear he g1 g2 hc hne hlt hB hA HBE HAB
          go_wp2
          go_quiet (fail)
          go_wp2
          go_quiet (fail)
          go_wp2
          go_returns
          refine And.intro (by first | rfl | (simp; have := HX.out; omega)) (by repeat (first | exact HB.out | refine below_drewN ?_ _))
        · rw [if_neg hlt] at hB hA
          have q1 : decide ((s[k].toNat : Int) < (s2[k].toNat : Int)) = false := decide_eq_false (by omega)
          have q2 : decide ((s2[k].toNat : Int) < (s[k].toNat : Int)) = true := decide_eq_true (by omega)
          have HX : Hid (s2[k].toNat < s[k].toNat) := Lib.hid (by omega)
          obtain rfl : be = false := by rw [hB]; decide
          obtain rfl : ab = true := by rw [hA]; decide
          clear he g1 g2 hc hne hlt hB hA HBE HAB
          go_wp2
          go_quiet (fail)
          go_wp2
          go_quiet (fail)
          go_wp2
          go_returns
          refine And.intro (by first | rfl | (simp; have := HX.out; omega)) (by repeat (first | exact HB.out | refine below_drewN ?_ _))
    · have hc : Lib.compareBytes s.data.toList s2.data.toList = if s.size < s2.size then -1 else if s2.size < s.size then 1 else 0 := by
        rw [cmp_drop _ _ k HT.out (by rw [HL1.out]; omega) (by rw [HL2.out]; omega)]
        by_cases hk : k = s.size
        · rw [List.drop_eq_nil_of_le (by rw [HL1.out]; omega), cmp_nil_left, List.length_drop, HL2.out]
          by_cases h3 : s.size < s2.size
          · rw [if_pos (by omega), if_pos h3]
          · rw [if_neg (by omega), if_neg h3, if_neg (by omega)]
        · have d2 : s2.data.toList.drop k = [] := List.drop_eq_nil_of_le (by rw [HL2.out]; omega)
          rw [d2, cmp_nil_right, List.length_drop, HL1.out]
          rw [if_pos (by omega), if_neg (by omega), if_pos (by omega)]
      have hB := HBE.out
      have hA := HAB.out
      rw [hc] at hB hA
      have q1 : decide ((s.size : Int) < (s2.size : Int)) = be := by rw [hB]; by_cases h3 : s.size < s2.size <;> by_cases h4 : s2.size < s.size <;> simp [h3, h4] <;> omega
      have q2 : decide ((s2.size : Int) < (s.size : Int)) = ab := by rw [hA]; by_cases h3 : s.size < s2.size <;> by_cases h4 : s2.size < s.size <;> simp [h3, h4] <;> omega
      have q1n : decide (s.size < s2.size) = be := by rw [← q1]; simp
      have q2n : decide (s2.size < s.size) = ab := by rw [← q2]; simp
      by_cases h3 : (k : Int) < (s.size : Int)
      · have c1 : decide ((k : Int) < (s.size : Int)) = true := decide_eq_true h3
        have c2 : decide ((k : Int) < (s2.size : Int)) = false := decide_eq_false (by omega)
        have c3 : ¬ (k : Int) < (s2.size : Int) := by omega
        clear h1 hc hB hA HBE HAB h3
        go_wp2
        all_goals
          go_quiet (fail)
          go_wp2
          go_returns
          refine And.intro (by first | rfl | (simp only [q1, q2]; rfl) | (simp [q1n, q2n])) (by repeat (first | exact HB.out | refine below_drewN ?_ _))
      · have c1 : decide ((k : Int) < (s.size : Int)) = false := decide_eq_false h3
        clear h1 hc hB hA HBE HAB
        go_wp2
        all_goals
          go_quiet (fail)
          go_wp2
          go_returns
          refine And.intro (by first | rfl | (simp only [q1, q2]; rfl) | (simp [q1n, q2n])) (by repeat (first | exact HB.out | refine below_drewN ?_ _))
end Go.Proofs.YtehakhplglhkdaaGreatDoor
