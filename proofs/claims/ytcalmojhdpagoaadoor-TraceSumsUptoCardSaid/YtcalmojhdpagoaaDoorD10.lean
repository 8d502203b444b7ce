import Derived.Test.YtcalmojhdpagoaaDoorEq
import Derived.WalkLawsBesides
import Derived.WalkSpells
import Derived.Deep.QuietTactic
import Derived.BigQuiet
import Derived.Lib.Hide
namespace Go.Proofs.YtcalmojhdpagoaaDoor
open Go.RowKit


set_option maxHeartbeats 400000 in
theorem differ_any (A B : Option Addr) (ca cb : Nat) (l m : List Ev) (w : World) (ha : Evs w A l) (hb : Evs w B m) (hla : l.length ≤ 140737488355328) (hlb : m.length ≤ 140737488355328) :
    Calls Tryd.prog 10 #[.slice A l.length ca, .slice B m.length cb] w fun e w' => e = .returned (.int .i64 (dif l m)) ∧ ∃ n, w.drewN n = w' := by
  have HA := Lib.hid ha
  have HB := Lib.hid hb
  clear ha hb
  go_enter Tryd.func10, Tryd.ntmps10
  go_wp2
  go_loopw [5] (fun i wr => ∃ k n : Nat, i = .int .i64 k ∧ k ≤ l.length ∧ k ≤ m.length ∧ k ≤ pre l m ∧ Hid (wr = w.drewN n)) (fun i _ => l.length - (intOf i).toNat)
  case atStart => exact ⟨0, 0, rfl, Nat.zero_le _, Nat.zero_le _, Nat.zero_le _, rfl⟩
  case round =>
    obtain ⟨k, n, rfl, hk1, hk2, hk3, H⟩ := hrel
    by_cases hin : k < l.length ∧ k < m.length
    · obtain ⟨hl, hm⟩ := hin
      obtain ⟨b, off, rfl, hbb, hcell⟩ := Evs.at_ HA.out (by omega)
      obtain ⟨b', off', rfl, hbb', hcell'⟩ := Evs.at_ HB.out (by omega)
      obtain rfl := H.out
      obtain ⟨a1, a2, a3⟩ := hcell k hl
      obtain ⟨c1, c2, c3⟩ := hcell' k hm
      clear hcell hcell'
      by_cases he : l[k] = m[k]
      · have hs := (sameEv_iff _ _).2 he
        have HS := Lib.hid (pre_step l m k hl hm hk3 he)
        clear he
        go_wp2
        go_quiet (fail)
        go_wp2
        go_roundw
        case rel => exact ⟨k + 1, n + nq, by go_num, by omega, by omega, HS.out, rfl⟩
        case measure => simp [intOf]; omega
      · have hs : sameEv l[k].k l[k].p l[k].s m[k].k m[k].p m[k].s = false := by
          cases h : sameEv l[k].k l[k].p l[k].s m[k].k m[k].p m[k].s with
          | false => rfl
          | true => exact absurd ((sameEv_iff _ _).1 h) he
        have HS := Lib.hid (dif_stop hl hm hk3 he)
        clear he
        go_wp2
        go_quiet (fail)
        go_wp2
        go_ret
        exact ⟨ret_int HS.out.symm, n + nq, by rw [World.drewN_drewN]⟩
    · have HS := Lib.hid (dif_end hk3 (by omega))
      have HW := H.out.symm
      have HW := Lib.hid HW
      by_cases hlm : l.length = m.length
      · have hs : ((l.length : Int) == (m.length : Int)) = true := by simp [hlm]
        have hf := HS.out
        rw [if_pos hlm] at hf
        have HF := Lib.hid hf
        have h1 : ¬ k < l.length := by omega
        clear hlm hf
        go_wp2
        go_ret
        exact ⟨ret_int HF.out.symm, _, HW.out⟩
      · have hs : ((l.length : Int) == (m.length : Int)) = false := by simp; omega
        have hf := HS.out
        rw [if_neg hlm] at hf
        have HF := Lib.hid hf
        rcases Nat.lt_or_gt_of_ne hlm with h | h
        all_goals
          clear hlm hf
          go_wp2
          go_ret
          exact ⟨ret_int (by rw [HF.out]; omega), _, HW.out⟩

/-- The loop of guiseref17.Differ ends where both lists have ended, or part. -/
theorem dif_out {l m : List Ev} {k : Nat} (h : k ≤ pre l m) (hl : ¬ k < l.length) (hm : ¬ k < m.length) : dif l m = -1 := by
  have := pre_le l m
  unfold dif
  rw [if_pos (by omega)]
theorem dif_one {l m : List Ev} {k : Nat} (h : k ≤ pre l m) (hk : ¬ (k < l.length ∧ k < m.length)) (hk' : k < l.length ∨ k < m.length) : dif l m = k := by
  have := pre_le l m
  unfold dif
  rw [if_neg (by omega)]
  congr 1
  omega

set_option maxHeartbeats 400000 in
theorem refDiffer_any (A B : Option Addr) (ca cb : Nat) (l m : List Ev) (w : World) (ha : Evs w A l) (hb : Evs w B m) (hla : l.length ≤ 140737488355328) (hlb : m.length ≤ 140737488355328) :
    Calls Tryd.prog 9 #[.slice A l.length ca, .slice B m.length cb] w fun e w' => e = .returned (.int .i64 (dif l m)) ∧ ∃ n, w.drewN n = w' := by
  have HA := Lib.hid ha
  have HB := Lib.hid hb
  clear ha hb
  go_enter Tryd.func9, Tryd.ntmps9
  go_wp2
  go_loopw [5] (fun i wr => ∃ k n : Nat, i = .int .i64 k ∧ (k ≤ l.length ∨ k ≤ m.length) ∧ k ≤ pre l m ∧ Hid (wr = w.drewN n)) (fun i _ => l.length + m.length - (intOf i).toNat)
  case atStart => exact ⟨0, 0, rfl, .inl (Nat.zero_le _), Nat.zero_le _, rfl⟩
  case round =>
    obtain ⟨k, n, rfl, hk1, hk3, H⟩ := hrel
    have hp := pre_le l m
    by_cases hin : k < l.length ∧ k < m.length
    · obtain ⟨hl, hm⟩ := hin
      obtain ⟨b, off, rfl, hbb, hcell⟩ := Evs.at_ HA.out (by omega)
      obtain ⟨b', off', rfl, hbb', hcell'⟩ := Evs.at_ HB.out (by omega)
      obtain rfl := H.out
      obtain ⟨a1, a2, a3⟩ := hcell k hl
      obtain ⟨c1, c2, c3⟩ := hcell' k hm
      clear hcell hcell'
      have d1 : decide (l.length ≤ k) = false := by simpa using hl
      have d2 : decide (m.length ≤ k) = false := by simpa using hm
      by_cases he : l[k] = m[k]
      · have hs := (sameEv_iff _ _).2 he
        have HS := Lib.hid (pre_step l m k hl hm hk3 he)
        clear he
        go_wp2
        go_quiet (fail)
        go_wp2
        go_roundw
        case rel => exact ⟨k + 1, n + nq, by go_num, by omega, HS.out, rfl⟩
        case measure => simp [intOf]; omega
      · have hs : sameEv l[k].k l[k].p l[k].s m[k].k m[k].p m[k].s = false := by
          cases h : sameEv l[k].k l[k].p l[k].s m[k].k m[k].p m[k].s with
          | false => rfl
          | true => exact absurd ((sameEv_iff _ _).1 h) he
        have HS := Lib.hid (dif_stop hl hm hk3 he)
        clear he
        go_wp2
        go_quiet (fail)
        go_wp2
        go_ret
        exact ⟨ret_int HS.out.symm, n + nq, by rw [World.drewN_drewN]⟩
    · by_cases hor : k < l.length ∨ k < m.length
      · have HS := Lib.hid (dif_one hk3 hin hor)
        have HW := Lib.hid H.out.symm
        obtain rfl := H.out
        rcases hor with h | h
        · have h2 : m.length ≤ k := by omega
          have d1 : decide (l.length ≤ k) = false := by simpa using h
          have d2 : decide (m.length ≤ k) = true := by simpa using h2
          clear hin
          go_wp2
          go_quiet (fail)
          go_wp2
          go_ret
          exact ⟨ret_int HS.out.symm, n + nq, by rw [World.drewN_drewN]⟩
        · have h2 : l.length ≤ k := by omega
          have d1 : decide (l.length ≤ k) = true := by simpa using h2
          have d2 : decide (m.length ≤ k) = false := by simpa using h
          clear hin
          go_wp2
          go_quiet (fail)
          go_wp2
          go_ret
          exact ⟨ret_int HS.out.symm, n + nq, by rw [World.drewN_drewN]⟩
      · have HS := Lib.hid (dif_out (l := l) (m := m) hk3 (by omega) (by omega))
        have HW := Lib.hid H.out.symm
        have h1 : ¬ k < l.length := by omega
        have h2 : ¬ k < m.length := by omega
        clear hin hor
        go_wp2
        go_ret
        exact ⟨ret_int HS.out.symm, _, HW.out⟩
end Go.Proofs.YtcalmojhdpagoaaDoor
