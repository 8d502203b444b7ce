/- guiseref6.Digits of a number below 0. Condition: it is an int. -/
import Derived.Test.YtehakhplglhkdaaGreatDoorRefDigits
import Derived.Test.YtehakhplglhkdaaGreatDoorRingPlain
namespace Go.Proofs.YtehakhplglhkdaaGreatDoor
set_option linter.unusedVariables false
open Go.RowKit

set_option maxRecDepth 200000 in
set_option maxHeartbeats 4000000 in
theorem refdigits_neg (w : World) (d : Nat) (hd : 0 < d) (hmax : d ≤ 9223372036854775808) (z0 : Int) (hz0 : z0 = -(d : Int)) : Calls Tryz.prog 49 #[.int .i64 z0] w fun en w' => en = .returned (.string ⟨(Lib.itoa z0).toArray⟩) ∧ Below w.heap.size w w' := by
  have g1 : decide ((0 : Int) ≤ z0) = false := decide_eq_false (by omega)
  have g2 : decide (z0 < (0 : Int)) = true := decide_eq_true (by omega)
  have hI : Hid (Lib.itoa z0 = 45 :: Lib.decDigits d) := by
    show Lib.itoa z0 = _
    rw [hz0]
    exact Lib.itoa_neg d hd
  have HZ0 := Lib.hid hz0
  clear hz0
  go_enter Tryz.func49, Tryz.ntmps49
  go_wp2_with fail
  go_loopw [0, 4] (fun v b wr => ∃ (n : Nat) (l : List UInt8) (z : Int), v = .int .i64 z ∧ n ≤ 9223372036854775808 ∧ Hid (z = -(n : Int)) ∧ Hid (OwnB w.heap.size wr b l) ∧ Hid (l ++ revD n = revD d) ∧ Hid (Below w.heap.size w wr)) (fun v _ _ => (-(intOf v)).toNat)
  case atStart => exact ⟨d, [], z0, rfl, hmax, HZ0, OwnB.nil _ _, rfl, Below.refl _ _⟩
  case round =>
    obtain ⟨n, l, z, rfl, hn, HZ, HO, HL, HB⟩ := hrel
    rename World => w1
    by_cases h0 : n = 0
    · subst h0
      have hz : z = 0 := by have := HZ.out; omega
      subst hz
      have ho := HO.out
      have hl : l = revD d := by have := HL.out; rw [revD_zero, List.append_nil] at this; exact this
      have hlen : l.length ≤ 19 := by rw [hl]; exact revD_length_le 19 d (by omega)
      have hsz := HB.out.size
      have hRR : Hid ((l ++ [45]).reverse = Lib.itoa z0) := by
        show _ = _
        rw [hI.out, List.reverse_append, hl, revD_dec d (by omega)]
        rfl
      clear HL hl ho g1 g2
      go_wp2_with (at_builtin; refine put_b (.tmp 39) (.tmp 40) w.heap.size _ l [45] _ _ rfl rfl rfl HO.out (by rfl) rfl (by simp; omega) hsz ?_; intro v6 w6 ho6 hk6)
      obtain ⟨R, hR⟩ : ∃ R, R = l ++ [45] := ⟨_, rfl⟩
      rw [← hR] at ho6 hRR
      have hRp : 0 < R.length := by rw [hR]; simp
      have hRl : R.length ≤ 20 := by rw [hR]; simp; omega
      obtain ⟨A, cp, rfl⟩ := own_shape ho6
      obtain ⟨g, rfl, hgc, hgm⟩ := own_addr ho6 hRp
      have HO2 := Lib.hid ho6
      have HB6 : Hid (Below w.heap.size w w6) := HB.out.trans hk6.below
      clear ho6 hR HO HB hk6 hlen
      rename Hid (Below w.heap.size w w6) => HB
      go_loopw [6] (fun v wr => ∃ k : Nat, v = .int .i64 k ∧ k ≤ R.length / 2 ∧ Hid (OwnB w.heap.size wr (.slice (some ⟨g, 0, none⟩) R.length cp) (swapped R k)) ∧ Hid (Below w.heap.size w wr)) (fun v _ => R.length / 2 - (intOf v).toNat)
      case atStart => exact ⟨0, rfl, Nat.zero_le _, by rw [swapped_zero]; exact HO2, HB⟩
      case round =>
        rename World => w2
        clear HO2 HB
        obtain ⟨k, rfl, hk, HO, HB⟩ := hrel
        by_cases hlt : k < R.length / 2
        · have f1 := HO.out.cell (swapped_at R k k (by omega))
          have f2 := HO.out.cell (swapped_at R k (R.length - 1 - k) (by omega))
          rw [if_neg (by omega)] at f1 f2
          have g1 : w2.frozen? ⟨g, k, none⟩ = false := World.ownsRow.frozenAt (n := (swapped R k).length) (cap := cp) (by have := HO.out; unfold OwnB at this; rw [swapped_length] at this ⊢; exact this) k
          have g2 : w2.frozen? ⟨g, R.length - 1 - k, none⟩ = false := World.ownsRow.frozenAt (n := (swapped R k).length) (cap := cp) (by have := HO.out; unfold OwnB at this; rw [swapped_length] at this ⊢; exact this) _
          have hst := ((HO.out.stored k (R.getD (R.length - 1 - k) 0)).stored (R.length - 1 - k) (R.getD k 0))
          rw [swapped_succ R k hlt] at hst
          have hbl := (HB.out.trans (HO.out.below k (.int .u8 (R.getD (R.length - 1 - k) 0).toNat))).trans ((HO.out.stored k (R.getD (R.length - 1 - k) 0)).below (R.length - 1 - k) (.int .u8 (R.getD k 0).toNat))
          have HST := Lib.hid hst
          have HBL := Lib.hid hbl
          clear hst hbl
          go_wp2_with fail
          go_roundw
          case rel => exact ⟨k + 1, rfl, by omega, HST.out, HBL.out⟩
          case measure => simp [intOf]; omega
        · obtain rfl : k = R.length / 2 := by omega
          have ho := HO.out
          rw [swapped_half, hRR.out] at ho
          have hconv := conv_own ho
          clear HO ho
          go_wp2_with fail
          go_ret
          exact ⟨rfl, HB.out⟩
    · have hsz := HB.out.size
      have hlen : l.length ≤ 19 := by
        have := HL.out
        have h2 := revD_length_le 19 d (by omega)
        rw [← this] at h2
        simp at h2
        omega
      have hrev : Hid ((l ++ [UInt8.ofNat (48 + n % 10)]) ++ revD (n / 10) = revD d) := by
        have := HL.out
        rw [revD_pos h0] at this
        show _ = _
        rw [← this]
        simp
      have hzn := HZ.out
      have e1 : (z == 0) = false := by simp; omega
      have e1' : (z != 0) = true := by simp; omega
      have e2 : z.tdiv 10 = -((n / 10 : Nat) : Int) := by rw [hzn, Int.neg_tdiv, Int.tdiv_eq_ediv_of_nonneg (Int.natCast_nonneg n)]; omega
      have e3 : z.tmod 10 = -((n % 10 : Nat) : Int) := by rw [hzn, Int.neg_tmod, Int.tmod_eq_emod_of_nonneg (Int.natCast_nonneg n)]; omega
      obtain ⟨q, hq⟩ : ∃ q, q = -((n / 10 : Nat) : Int) := ⟨_, rfl⟩
      rw [← hq] at e2
      have HQ := Lib.hid hq
      have ew : wrap64 q = q := by unfold wrap64; omega
      by_cases hr : n % 10 = 0
      · rw [hr] at e3 hrev
        have e3' : z.tmod 10 = 0 := by rw [e3]; rfl
        clear e3 hzn hq hr
        go_wp2_with (at_builtin; refine put_b (.tmp 30) (.tmp 34) w.heap.size _ l [UInt8.ofNat (48 + 0)] _ _ rfl rfl rfl HO.out (by rfl) rfl (by simp; omega) hsz ?_; intro v6 w6 ho6 hk6)
        go_roundw
        case rel => exact ⟨n / 10, _, q, by go_num, by omega, HQ, ho6, hrev.out, HB.out.trans hk6.below⟩
        case measure => have := HZ.out; have := HQ.out; simp [intOf]; omega
      · obtain ⟨r, hrr⟩ : ∃ r, r = n % 10 := ⟨_, rfl⟩
        rw [← hrr] at e3 hrev hr
        have hr10 : r < 10 := by omega
        obtain ⟨m, hm⟩ : ∃ m, m = -(r : Int) := ⟨_, rfl⟩
        rw [← hm] at e3
        have e4 : decide (m < 0) = true := decide_eq_true (by omega)
        have e5 : wrap64 (-m) = (r : Int) := by unfold wrap64; omega
        have e6 : m < 0 := by omega
        clear hzn hq hm hrr
        go_wp2_with (at_builtin; refine put_b (.tmp 30) (.tmp 34) w.heap.size _ l [UInt8.ofNat (48 + r)] _ _ rfl rfl rfl HO.out (by rw [dig_cell _ (by omega)]) rfl (by simp; omega) hsz ?_; intro v6 w6 ho6 hk6)
        go_roundw
        case rel => exact ⟨n / 10, _, q, by go_num, by omega, HQ, ho6, hrev.out, HB.out.trans hk6.below⟩
        case measure => have := HZ.out; have := HQ.out; simp [intOf]; omega
end Go.Proofs.YtehakhplglhkdaaGreatDoor
