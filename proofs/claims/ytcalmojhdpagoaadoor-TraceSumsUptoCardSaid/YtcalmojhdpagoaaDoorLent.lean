/- lent and still: what is lent is a copy with two events behind it; still says so. -/
import Derived.Test.YtcalmojhdpagoaaDoorEq
import Derived.WalkLawsBesides
import Derived.WalkSpells
import Derived.Deep.QuietTactic
import Derived.BigQuiet
namespace Go.Proofs.YtcalmojhdpagoaaDoor
open Go.RowKit

theorem info33 : (Tryd.prog.info? 33).map (fun i => (i.zero, i.size, i.bytes)) = some (some (.agg #[.int .i64 0, .int .i64 0, .string ⟨#[]⟩]), 3, 32) := by kernel_rfl
theorem size33 : (Tryd.prog.info? 33).map (·.size) = some 3 := by kernel_rfl

/-- The two events behind what is lent. -/
def tail : List Ev := [⟨77, 0, ⟨#[]⟩⟩, ⟨78, 0, ⟨#[]⟩⟩]

theorem lent_sets (l : List Ev) (D : List Value) (hD : D.length = 6) :
    ((((((flat l ++ D).set (l.length * 3) (.int .i64 77)).set (l.length * 3 + 1) (.int .i64 0)).set (l.length * 3 + 2) (.string ⟨#[]⟩)).set ((l.length + 1) * 3) (.int .i64 78)).set ((l.length + 1) * 3 + 1) (.int .i64 0)).set ((l.length + 1) * 3 + 2) (.string ⟨#[]⟩) = flat (l ++ tail) := by
  match D, hD with
  | [d0, d1, d2, d3, d4, d5], _ =>
    rw [flat_append]
    have e := flat_length l
    rw [List.set_append_right _ _ (by omega), List.set_append_right _ _ (by omega), List.set_append_right _ _ (by omega), List.set_append_right _ _ (by omega), List.set_append_right _ _ (by omega), List.set_append_right _ _ (by omega), e,
      show l.length * 3 - l.length * 3 = 0 by omega, show l.length * 3 + 1 - l.length * 3 = 1 by omega, show l.length * 3 + 2 - l.length * 3 = 2 by omega, show (l.length + 1) * 3 - l.length * 3 = 3 by omega, show (l.length + 1) * 3 + 1 - l.length * 3 = 4 by omega, show (l.length + 1) * 3 + 2 - l.length * 3 = 5 by omega]
    rfl

set_option maxHeartbeats 400000 in
theorem lent_any (A : Option Addr) (ca : Nat) (l : List Ev) (w : World) (ha : Evs w A l) (hl : l.length * 32 ≤ 140737488355328) :
    Calls Tryd.prog 8 #[.slice A l.length ca] w fun e w' => e = .returned (.slice (some ⟨w.heap.size, 0, none⟩) l.length (l.length + 2)) ∧ Row w' w.heap.size 33 (flat (l ++ tail)) ∧ Below w.heap.size w w' := by
  obtain ⟨i0, hi, hz0, hz1, hz2⟩ := info_parts info33
  have hmk := make_row (P := Tryd.prog) 22 33 i0 _ Tryd.underlying22 hi hz0 (l.length + 2) (by rw [hz2]; omega) (by omega)
  have e2 : ((l.length + 2 : Nat) : Int) = (l.length : Int) + 2 := by omega
  rw [e2, hz1] at hmk
  clear e2
  obtain ⟨Z, hZ, hZl⟩ : ∃ Z : List Value, madeCells (Value.agg #[.int .i64 0, .int .i64 0, .string ⟨#[]⟩]).cells ((l.length + 2) * 3) = Z.toArray ∧ Z.length = (l.length + 2) * 3 := ⟨_, (Array.toArray_toList).symm, by simp [size_madeCells]⟩
  rw [hZ] at hmk
  clear hZ
  have hb0 : Below w.heap.size w (w.alloc (.cells Z.toArray 33)) := (Below.refl _ _).alloc (Nat.le_refl _) _
  obtain ⟨w2, hcp, hrow, hbel⟩ := copy_head (P := Tryd.prog) (w := w.alloc (.cells Z.toArray 33)) 22 33 3 w.heap.size (l.length + 2) (l.length + 2) A l.length ca Z 33 (flat l) Tryd.underlying22 size33
    (Row.made w 33 Z) (flat_length l) (by omega) (Lies.below ha hb0 rfl) (by omega) (by rw [flat_length, hZl]; omega) (flat_one l)
  have hb2 := hb0.trans (hbel w.heap.size (Nat.le_refl _))
  obtain ⟨R, hR⟩ : ∃ R, R = flat l ++ Z.drop (flat l).length := ⟨_, rfl⟩
  rw [← hR] at hrow
  have hRl : R.length = (l.length + 2) * 3 := by rw [hR]; simp [flat_length, hZl]; omega
  have c : ∀ j, j < (l.length + 2) * 3 → w2.cell? ⟨w.heap.size, j, none⟩ = some (R.getD j undef) := fun j hj => by
    rw [hrow.cell, List.getD, List.getElem?_eq_getElem (by omega)]; rfl
  have c0 := c (l.length * 3) (by omega)
  have c1 := c (l.length * 3 + 1) (by omega)
  have c2 := c (l.length * 3 + 2) (by omega)
  have c3 := c ((l.length + 1) * 3) (by omega)
  have c4 := c ((l.length + 1) * 3 + 1) (by omega)
  have c5 := c ((l.length + 1) * 3 + 2) (by omega)
  have f : ∀ j, w2.frozen? ⟨w.heap.size, j, none⟩ = false := fun j => hrow.free j
  have HR := Lib.hid hR
  have HRow := Lib.hid hrow
  have HB := Lib.hid hb2
  have HC := Lib.hid c
  clear c hR hrow hbel hb2 hb0 hRl
  go_enter Tryd.func8, Tryd.ntmps8
  go_wp2
  go_ret
  have hb := HB.out
  have h := (((((HRow.out.set (l.length * 3) (.int .i64 77)).set (l.length * 3 + 1) (.int .i64 0)).set (l.length * 3 + 2) (.string ⟨#[]⟩)).set ((l.length + 1) * 3) (.int .i64 78)).set ((l.length + 1) * 3 + 1) (.int .i64 0)).set ((l.length + 1) * 3 + 2) (.string ⟨#[]⟩)
  rw [HR.out, lent_sets l (Z.drop (flat l).length) (by simp [flat_length, hZl]; omega)] at h
  exact ⟨rfl, h, (((((hb.setCell (Nat.le_refl _) _).setCell (Nat.le_refl _) _).setCell (Nat.le_refl _) _).setCell (Nat.le_refl _) _).setCell (Nat.le_refl _) _).setCell (Nat.le_refl _) _⟩

set_option maxHeartbeats 400000 in
/-- still: what was lent is as it was. -/
theorem still_any (A : Option Addr) (ca g : Nat) (l : List Ev) (w : World) (ha : Evs w A l) (hg : Row w g 33 (flat (l ++ tail))) (hl : l.length * 32 ≤ 140737488355328) :
    Calls Tryd.prog 11 #[.slice (some ⟨g, 0, none⟩) l.length (l.length + 2), .slice A l.length ca] w fun e w' => e = .returned (.bool true) ∧ ∃ n, w.drewN n = w' := by
  have HA := Lib.hid ha
  have HG := Lib.hid hg
  clear ha
  have hrow : Evs w (some ⟨g, 0, none⟩) (l ++ tail) := Lies.row hg (fun j u h => h)
  have hlen : (l ++ tail).length = l.length + 2 := by simp [tail]
  obtain ⟨b, off, e, _, hc⟩ := Evs.at_ hrow (by omega)
  obtain ⟨rfl, rfl⟩ : g = b ∧ 0 = off := by injection e with e; injection e with e1 e2; exact ⟨e1, e2⟩
  have t0 := hc l.length (by omega)
  have t1 := hc (l.length + 1) (by omega)
  have g0 : (l ++ tail)[l.length]'(by omega) = ⟨77, 0, ⟨#[]⟩⟩ := by simp [tail]
  have g1 : (l ++ tail)[l.length + 1]'(by omega) = ⟨78, 0, ⟨#[]⟩⟩ := by simp [tail]
  rw [g0] at t0
  rw [g1] at t1
  simp only [Nat.zero_add] at t0 t1
  obtain ⟨t00, t01, t02⟩ := t0
  obtain ⟨t10, t11, t12⟩ := t1
  have HC := Lib.hid hc
  clear hc e hrow hlen g0 g1 hg
  have s77 : sameEv 77 0 ⟨#[]⟩ 77 0 ⟨#[]⟩ = true := by simp [sameEv]
  have s78 : sameEv 78 0 ⟨#[]⟩ 78 0 ⟨#[]⟩ = true := by simp [sameEv]
  go_enter Tryd.func11, Tryd.ntmps11
  go_wp2
  go_loopw [6] (fun i wr => ∃ k n : Nat, i = .int .i64 k ∧ k ≤ l.length ∧ Hid (wr = w.drewN n)) (fun i _ => l.length - (intOf i).toNat)
  case atStart => exact ⟨0, 0, rfl, Nat.zero_le _, rfl⟩
  case round =>
    obtain ⟨k, n, rfl, hk1, H⟩ := hrel
    obtain rfl := H.out
    by_cases hlt : k < l.length
    · obtain ⟨b', off', rfl, hbb', hcell'⟩ := Evs.at_ HA.out (by omega)
      obtain ⟨c1, c2, c3⟩ := hcell' k hlt
      obtain ⟨a1, a2, a3⟩ := HC.out k (by simp [tail]; omega)
      rw [List.getElem_append_left hlt] at a1 a2 a3
      simp only [Nat.zero_add] at a1 a2 a3
      have hs := (sameEv_iff l[k] l[k]).2 rfl
      clear hcell' t00 t01 t02 t10 t11 t12
      go_wp2
      go_quiet (fail)
      go_wp2
      go_roundw
      case rel => exact ⟨k + 1, n + nq, by go_num, by omega, rfl⟩
      case measure => simp [intOf]; omega
    · have : k = l.length := by omega
      subst this
      go_wp2
      go_ret
      exact ⟨rfl, n, rfl⟩
end Go.Proofs.YtcalmojhdpagoaaDoor
