/- guiselaw6.owns: two paths of the call's own, in blocks of their own, written full and grown. Condition: they are not long. -/
import Derived.Test.YtehakhplglhkdaaGreatDoorPathRow
import Derived.Deep.QuietTactic
import Derived.BigQuiet
namespace Go.Proofs.YtehakhplglhkdaaGreatDoor
set_option linter.unusedVariables false
open Go.RowKit

theorem OwnI.len {Bo : Nat} {w : World} {v : Value} {n : Int} {k : Nat} (h : OwnI Bo w v (List.replicate k n)) : ∃ A c, v = .slice A k c := by
  obtain ⟨A, c, e⟩ := h.shape
  rw [List.length_replicate] at e
  exact ⟨A, c, e⟩
theorem int_lt {k n : Nat} (h : k < n) : (0 : Int) ≤ (k : Int) ∧ (k : Int) < (n : Int) := by omega
theorem replicate_get (n : Int) (N k : Nat) (h : k < (List.replicate N n).length) : (List.replicate N n)[k] = n := by simp

set_option maxRecDepth 200000 in
set_option maxHeartbeats 4000000 in
theorem owns_any (A B : Option Addr) (c d : Nat) (l m : List Int) (B0 : Nat) (w : World) (ha : OwnI B0 w (.slice A l.length c) l) (hb : OwnI B0 w (.slice B m.length d) m) (hap : Apart (.slice B m.length d) (.slice A l.length c)) (hl : l.length ≤ 17592186043904) (hm : m.length ≤ 17592186043904) (hw : B0 ≤ w.heap.size) :
    Calls Tryz.prog 23 #[.slice A l.length c, .slice B m.length d] w fun e w' => e = .returned (.bool true) ∧ Below B0 w w' := by
  have HA := Lib.hid ha
  have HB := Lib.hid hb
  have HP := Lib.hid hap
  have HW := Lib.hid hw
  have HN : Hid (B = none → d = 0) := Lib.hid (fun h => by subst h; exact hb.none_.2.2)
  clear ha hb hap hw
  go_enter Tryz.func23, Tryz.ntmps23
  go_wp2_with (at_builtin; refine copy_i _ _ B d m _ rfl rfl rfl rfl HN.out HB.out.ints (by omega) ?_; intro W cw w1 hW1 hb1)
  have HB1 : Hid (Below B0 w w1) := Lib.hid (below_low hb1 HW.out)
  have HA1 : Hid (OwnI B0 w1 (.slice A l.length c) l) := HA.out.below hb1 (Nat.le_refl _)
  have HBb : Hid (OwnI B0 w1 (.slice B m.length d) m) := HB.out.below hb1 (Nat.le_refl _)
  have HWw : Hid (OwnI B0 w1 (.slice W m.length cw) m) := hW1.low HW.out
  have HQ : Hid (Apart (.slice W m.length cw) (.slice A l.length c)) := Lib.hid fun g h1 h2 => by
    have e1 := (hW1.lt h1).1
    have e2 := (HA.out.lt h2).2
    omega
  have HR : Hid (Apart (.slice W m.length cw) (.slice B m.length d)) := Lib.hid fun g h1 h2 => by
    have e1 := (hW1.lt h1).1
    have e2 := (HB.out.lt h2).2
    omega
  clear hb1 hW1 HA HB HN
  go_wp2_with fail
  go_loopw [6] (fun v wr => ∃ k : Nat, v = .int .i64 k ∧ k ≤ l.length ∧ Hid (OwnI B0 wr (.slice A l.length c) (filled (-9) k l)) ∧ Hid (OwnI B0 wr (.slice B m.length d) m) ∧ Hid (OwnI B0 wr (.slice W m.length cw) m) ∧ Hid (Below B0 w wr)) (fun v _ => l.length - (intOf v).toNat)
  case atStart => exact ⟨0, rfl, Nat.zero_le _, by rw [filled_zero]; exact HA1, HBb, HWw, HB1⟩
  case round =>
    clear HA1 HBb HWw HB1
    rename World => w2
    obtain ⟨k, rfl, hk, HA1, HBb, HWw, HB1⟩ := hrel
    by_cases hlt : k < l.length
    · obtain ⟨g, rfl, _⟩ := HA1.out.addr (by rw [filled_length _ _ _ hk]; omega)
      have f1 := HA1.out.cell k (by rw [filled_length _ _ _ hk]; omega)
      have f2 := HA1.out.free k
      have hi := int_lt hlt
      obtain ⟨s1, s2, s3⟩ := HA1.out.stored k (-9)
      rw [filled_set _ _ _ hlt] at s1
      have S1 := Lib.hid s1
      have S2 := Lib.hid (HB1.out.trans s2)
      have S3 := Lib.hid (s3 _ _ _ HBb.out HP.out)
      have S4 := Lib.hid (s3 _ _ _ HWw.out HQ.out)
      clear s1 s2 s3 HA1 HBb HWw HB1
      go_wp2_with fail
      go_roundw
      case rel => exact ⟨k + 1, by go_num, by omega, S1, S3, S4, S2⟩
      case measure => simp [intOf]; omega
    · obtain rfl : k = l.length := by omega
      have HA2 := HA1.out
      rw [filled_all] at HA2
      replace HA1 := Lib.hid HA2
      clear HA2 hlt hk
      go_wp2_with fail
      go_loopw [7, 8] (fun x v wr => ∃ k : Nat, v = .int .i64 k ∧ k ≤ 20 ∧ Hid (OwnI B0 wr x (List.replicate (l.length + k) (-9))) ∧ Hid (Apart (.slice B m.length d) x) ∧ Hid (Apart (.slice W m.length cw) x) ∧ Hid (OwnI B0 wr (.slice B m.length d) m) ∧ Hid (OwnI B0 wr (.slice W m.length cw) m) ∧ Hid (Below B0 w wr)) (fun _ v _ => 20 - (intOf v).toNat)
      case atStart => exact ⟨0, rfl, by omega, HA1, HP, HQ, HBb, HWw, HB1⟩
      case round =>
        clear HA1 HP HQ HBb HWw HB1
        rename World => w3
        obtain ⟨k, rfl, hk, HX, HP, HQ, HBb, HWw, HB1⟩ := hrel
        by_cases hlt : k < 20
        · have hsz : B0 ≤ w3.heap.size := Nat.le_trans HW.out HB1.out.size
          go_wp2_with (at_builtin; refine put_i (.tmp 30) (.tmp 31) B0 _ _ (-9) _ _ rfl rfl rfl HX.out rfl rfl (by simp; omega) hsz ?_; intro v6 w6 ho6 hb6 hk6)
          rw [replicate_more] at ho6
          have k1 := hk6 _ _ _ HBb.out HP.out
          have k2 := hk6 _ _ _ HWw.out HQ.out
          have B6 := Lib.hid (HB1.out.trans hb6)
          go_roundw
          case rel => exact ⟨k + 1, by go_num, by omega, ho6, k1.2, k2.2, k1.1, k2.1, B6⟩
          case measure => simp [intOf]; omega
        · obtain rfl : k = 20 := by omega
          rw [show ((20 : Nat) : Int) = 20 from rfl]
          obtain ⟨A2, c2, rfl⟩ := HX.out.len
          clear hlt hk
          go_wp2_with fail
          go_loopw [4, 9] (fun z v wr => ∃ k n : Nat, v = .int .i64 k ∧ k ≤ m.length ∧ Hid (wr = w3.drewN n)) (fun _ v _ => m.length - (intOf v).toNat)
          case atStart => exact ⟨0, 0, rfl, Nat.zero_le _, rfl⟩
          case round =>
            obtain ⟨k, n, rfl, hk, H⟩ := hrel
            obtain rfl := H.out
            clear H
            by_cases hlt : k < m.length
            · obtain ⟨gb, rfl, _⟩ := HBb.out.addr (by omega)
              obtain ⟨gw, rfl, _⟩ := HWw.out.addr (by omega)
              have f1 := HBb.out.cell k hlt
              have f2 := HWw.out.cell k hlt
              have hi := int_lt hlt
              go_wp2_with fail
              go_quiet (fail)
              go_wp2
              go_roundw
              case rel => exact ⟨k + 1, n + nq, by go_num, by omega, rfl⟩
              case measure => simp [intOf]; omega
            · obtain rfl : k = m.length := by omega
              have HX4 : Hid (OwnI B0 (w3.drewN n) (.slice A2 (l.length + 20) c2) (List.replicate (l.length + 20) (-9))) := HX
              have HB4 : Hid (OwnI B0 (w3.drewN n) (.slice B m.length d) m) := HBb
              have HL4 : Hid (Below B0 w (w3.drewN n)) := below_drewN HB1.out n
              generalize w3.drewN n = w4 at *
              clear HX HBb HWw HB1 HQ hlt hk
              go_wp2_with fail
              go_loopw [10] (fun v wr => ∃ k : Nat, v = .int .i64 k ∧ k ≤ m.length ∧ Hid (OwnI B0 wr (.slice B m.length d) (filled (-8) k m)) ∧ Hid (OwnI B0 wr (.slice A2 (l.length + 20) c2) (List.replicate (l.length + 20) (-9))) ∧ Hid (Below B0 w wr)) (fun v _ => m.length - (intOf v).toNat)
              case atStart => exact ⟨0, rfl, Nat.zero_le _, by rw [filled_zero]; exact HB4, HX4, HL4⟩
              case round =>
                clear HB4 HX4 HL4
                rename World => w5
                obtain ⟨k, rfl, hk, HBb, HX, HB1⟩ := hrel
                by_cases hlt : k < m.length
                · obtain ⟨g, rfl, _⟩ := HBb.out.addr (by rw [filled_length _ _ _ hk]; omega)
                  have f1 := HBb.out.cell k (by rw [filled_length _ _ _ hk]; omega)
                  have f2 := HBb.out.free k
                  have hi := int_lt hlt
                  obtain ⟨s1, s2, s3⟩ := HBb.out.stored k (-8)
                  rw [filled_set _ _ _ hlt] at s1
                  have S1 := Lib.hid s1
                  have S2 := Lib.hid (HB1.out.trans s2)
                  have S3 := Lib.hid (s3 _ _ _ HX.out (fun g h1 h2 => HP.out g h2 h1))
                  clear s1 s2 s3 HBb HX HB1
                  go_wp2_with fail
                  go_roundw
                  case rel => exact ⟨k + 1, by go_num, by omega, S1, S3, S2⟩
                  case measure => simp [intOf]; omega
                · obtain rfl : k = m.length := by omega
                  have HB2 := HBb.out
                  rw [filled_all] at HB2
                  replace HBb := Lib.hid HB2
                  have HPs := Lib.hid (Apart.symm HP.out)
                  clear HB2 hlt hk HP
                  go_wp2_with fail
                  go_loopw [11, 12] (fun y v wr => ∃ k : Nat, v = .int .i64 k ∧ k ≤ 20 ∧ Hid (OwnI B0 wr y (List.replicate (m.length + k) (-8))) ∧ Hid (Apart (.slice A2 (l.length + 20) c2) y) ∧ Hid (OwnI B0 wr (.slice A2 (l.length + 20) c2) (List.replicate (l.length + 20) (-9))) ∧ Hid (Below B0 w wr)) (fun _ v _ => 20 - (intOf v).toNat)
                  case atStart => exact ⟨0, rfl, by omega, HBb, HPs, HX, HB1⟩
                  case round =>
                    clear HBb HPs HX HB1
                    rename World => w6
                    obtain ⟨k, rfl, hk, HY, HP, HX, HB1⟩ := hrel
                    by_cases hlt : k < 20
                    · have hsz : B0 ≤ w6.heap.size := Nat.le_trans HW.out HB1.out.size
                      go_wp2_with (at_builtin; refine put_i (.tmp 62) (.tmp 63) B0 _ _ (-8) _ _ rfl rfl rfl HY.out rfl rfl (by simp; omega) hsz ?_; intro v6 w7 ho6 hb6 hk6)
                      rw [replicate_more] at ho6
                      have k1 := hk6 _ _ _ HX.out HP.out
                      have B6 := Lib.hid (HB1.out.trans hb6)
                      go_roundw
                      case rel => exact ⟨k + 1, by go_num, by omega, ho6, k1.2, k1.1, B6⟩
                      case measure => simp [intOf]; omega
                    · obtain rfl : k = 20 := by omega
                      rw [show ((20 : Nat) : Int) = 20 from rfl]
                      clear hk hlt HY HP
                      obtain ⟨N, hN⟩ : ∃ N, N = l.length + 20 := ⟨_, rfl⟩
                      rw [← hN]
                      rw [← hN] at HX
                      have hlN : N ≤ 17592186043924 := by omega
                      clear hN
                      go_wp2_with fail
                      go_loopw [4, 13] (fun z v wr => ∃ k : Nat, v = .int .i64 k ∧ k ≤ N ∧ Hid (wr = w6)) (fun _ v _ => N - (intOf v).toNat)
                      case atStart => exact ⟨0, rfl, Nat.zero_le _, rfl⟩
                      case round =>
                        obtain ⟨k, rfl, hk, H⟩ := hrel
                        obtain rfl := H.out
                        clear H
                        by_cases hlt : k < N
                        · obtain ⟨g, rfl, hgN, _⟩ := HX.out.addr (by rw [List.length_replicate]; omega)
                          clear hgN
                          have f1 := HX.out.cell k (by rw [List.length_replicate]; exact hlt)
                          rw [replicate_get] at f1
                          have hi := int_lt hlt
                          go_wp2
                          go_roundw
                          case rel => exact ⟨k + 1, by go_num, by omega, trivial⟩
                          case measure => simp [intOf]; omega
                        · go_wp2_with fail
                          go_ret
                          exact ⟨rfl, HB1.out⟩
end Go.Proofs.YtehakhplglhkdaaGreatDoor
