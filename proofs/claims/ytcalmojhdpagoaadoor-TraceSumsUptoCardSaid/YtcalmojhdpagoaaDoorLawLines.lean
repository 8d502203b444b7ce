/- The walk of the law TraceLines: it returns true, and what was there stays. Conditions: a list of at most 2^47 bytes. -/
import Derived.Test.YtcalmojhdpagoaaDoorLaws
namespace Go.Proofs.YtcalmojhdpagoaaDoor
set_option linter.unusedVariables false
open Go.RowKit

set_option maxHeartbeats 2000000 in
theorem traceLines_long (s : ByteArray) (A : Option Addr) (ca : Nat) (l : List Ev) (w : World) (ha : Evs w A l) (hs : 60000 < s.size) (hs' : s.size ≤ 9223372036854775807) (hl : l.length * 32 ≤ 140737488355328)
    (htab : Lib.TabIs Tryd.prog w "internal/strconv.uint64pow10" .u64 Lib.pow10Tab) :
    Calls Tryd.prog 4 #[.string s, .slice A l.length ca] w fun e w' => e = .returned (.bool true) ∧ Below w.heap.size w w' := by
  have h7 := examples_any w htab
  have HA := Lib.hid ha
  clear htab ha
  go_enter Tryd.func4, Tryd.ntmps4
  go_wp2_with (first
    | (go_at_call 7; with_reducible (refine h7.mono ?_); rintro en w1 ⟨rfl, hb1⟩
       have he1 : Hid (Evs w1 A l) := HA.out.below hb1 rfl
       have h8 := lent_any A ca l w1 he1.out hl
       clear h7 HA)
    | (go_at_call 8; with_reducible (refine h8.mono ?_); rintro en w2 ⟨rfl, hr2, hb2⟩
       have he2 : Hid (Evs w2 A l) := he1.out.below hb2 rfl
       have hB2 : Hid (Below w.heap.size w w2) := below_more hb1 hb2 hb1.size
       have h12 := refLines_long s A ca l w2 hs hs'
       have hr2' := Lib.hid hr2
       clear h8 he1 hb1 hb2 hr2)
    | (go_at_call 12; with_reducible (refine h12.mono ?_); rintro en w3 ⟨rfl, rfl⟩; clear h12))
  go_loopw [8] (fun v wr => ∃ k : Nat, v = .int .i64 k ∧ k ≤ 2 ∧ Hid (wr = w2)) (fun v _ => 2 - (intOf v).toNat)
  case atStart => exact ⟨0, rfl, by omega, rfl⟩
  case round =>
    obtain ⟨k, rfl, hk, H⟩ := hrel
    obtain rfl := H.out
    clear H
    by_cases hlt : k < 2
    · have h13 := lines_long s (some ⟨w1.heap.size, 0, none⟩) (l.length + 2) l wr hs hs'
      go_wp2_with (first
        | (go_at_call 13; with_reducible (refine h13.mono ?_); rintro en w4 ⟨rfl, rfl⟩; clear h13))
      go_loopw [10] (fun v wi => v = .int .i64 0 ∧ Hid (wi = wr)) (fun v _ => 0)
      case atStart => exact ⟨rfl, rfl⟩
      case round =>
        rename World => w5
        obtain ⟨rfl, H5⟩ := hrel
        obtain rfl := H5.out
        clear H5
        go_wp2
        go_roundw
        case rel => exact ⟨k + 1, by go_num, by omega, trivial⟩
        case measure => simp [intOf]; omega
    · have h11 := still_any A ca w1.heap.size l wr he2.out hr2'.out hl
      go_wp2_with (first
        | (go_at_call 11; with_reducible (refine h11.mono ?_); rintro en w5 ⟨rfl, hw5⟩
           have hB5 : Hid (Below w.heap.size w w5) := below_drawn hB2.out hw5
           clear h11 hw5))
      go_ret
      exact ⟨rfl, hB5.out⟩

set_option maxHeartbeats 2000000 in
theorem traceLines_short (s : ByteArray) (A : Option Addr) (ca : Nat) (l : List Ev) (w : World) (ha : Evs w A l) (hs : s.size ≤ 60000) (hl : l.length * 32 ≤ 140737488355328)
    (htab : Lib.TabIs Tryd.prog w "internal/strconv.uint64pow10" .u64 Lib.pow10Tab) :
    Calls Tryd.prog 4 #[.string s, .slice A l.length ca] w fun e w' => e = .returned (.bool true) ∧ Below w.heap.size w w' := by
  have h7 := examples_any w htab
  have HA := Lib.hid ha
  obtain ⟨N, hN⟩ : ∃ N, N = lineOf s s.size + 1 := ⟨_, rfl⟩
  obtain ⟨f, hf⟩ : ∃ f : Nat → Int, f = fun j => (countAt s l j : Int) := ⟨_, rfl⟩
  have hNs : N ≤ 60001 := by have := lineOf_le s s.size; omega
  have hrow : (lns s l).map (Value.int .i64) = ints N f := by rw [lns_row, ← hN, ← hf]
  have hfb : Hid (∀ j, 0 ≤ f j ∧ f j ≤ 140737488355328) := fun j => by rw [hf]; have := countAt_le s l j; dsimp only; omega
  clear htab ha hf
  go_enter Tryd.func4, Tryd.ntmps4
  go_wp2_with (first
    | (go_at_call 7; with_reducible (refine h7.mono ?_); rintro en w1 ⟨rfl, hb1⟩
       have he1 : Hid (Evs w1 A l) := HA.out.below hb1 rfl
       have h8 := lent_any A ca l w1 he1.out hl
       clear h7 HA)
    | (go_at_call 8; with_reducible (refine h8.mono ?_); rintro en w2 ⟨rfl, hr2, hb2⟩
       have he2 : Hid (Evs w2 A l) := he1.out.below hb2 rfl
       have hB2 : Hid (Below w.heap.size w w2) := below_more hb1 hb2 hb1.size
       have h12 := refLines_short s A ca l w2 he2.out hs hl
       rw [hrow, ← hN] at h12
       have hr2' := Lib.hid hr2
       clear h8 he1 hb1 hb2 hr2)
    | (go_at_call 12; with_reducible (refine h12.mono ?_); rintro en w3 ⟨rfl, hq3, hb3⟩
       have he3 : Hid (Evs w3 A l) := he2.out.below hb3 rfl
       have hB3 : Hid (Below w.heap.size w w3) := below_more hB2.out hb3 hB2.out.size
       have hr3 : Hid (Row w3 w1.heap.size 33 (flat (l ++ tail))) := hr2'.out.below hb3 hr2'.out.lt
       have hq3' := Lib.hid hq3
       clear h12 he2 hB2 hr2' hb3 hq3))
  go_loopw [8] (fun v wr => ∃ k : Nat, v = .int .i64 k ∧ k ≤ 2 ∧ Hid (Evs wr A l) ∧ Hid (Below w.heap.size w wr) ∧ Hid (Row wr w1.heap.size 33 (flat (l ++ tail))) ∧ Hid (Row wr (w2.heap.size + 1) 3 (ints N f))) (fun v _ => 2 - (intOf v).toNat)
  case atStart => exact ⟨0, rfl, by omega, he3, hB3, hr3, hq3'⟩
  case round =>
    clear he3 hB3 hr3 hq3'
    obtain ⟨k, rfl, hk, he4, hB4, hr4, hq4⟩ := hrel
    obtain ⟨wo, rfl⟩ : ∃ wo : World, wo = wr := ⟨_, rfl⟩
    by_cases hlt : k < 2
    · have h13 := lines_short s (some ⟨w1.heap.size, 0, none⟩) (l.length + 2) l wo (row_front hr4.out) hs hl
      rw [hrow, ← hN] at h13
      go_wp2_with (first
        | (go_at_call 13; with_reducible (refine h13.mono ?_); rintro en w5 ⟨rfl, hp5, hb5⟩
           have hz5 := hb5.size
           have HB5 := Lib.hid hb5
           have hp5' : Hid (Row w5 (wo.heap.size + 1) 3 (ints N fun j => if j < 0 then -9 else f j)) := hp5
           clear h13 hp5 hb5))
      go_loopw [10] (fun v wi => ∃ j : Nat, v = .int .i64 j ∧ j ≤ N ∧ Hid (Below wo.heap.size wo wi) ∧ Hid (Row wi (wo.heap.size + 1) 3 (ints N fun i => if i < j then -9 else f i))) (fun v _ => N - (intOf v).toNat)
      case atStart => exact ⟨0, rfl, by omega, HB5, hp5'⟩
      case round =>
        rename World => wi
        clear HB5 hp5' hz5
        obtain ⟨j, rfl, hj, HB6, hp6⟩ := hrel
        by_cases hjl : j < N
        · have c1 : wi.cell? ⟨wo.heap.size + 1, j, none⟩ = some (.int .i64 (f j)) := by
            rw [hp6.out.cell, ints_at _ _ _ hjl, if_neg (by omega)]
          have c2 : wi.cell? ⟨w2.heap.size + 1, j, none⟩ = some (.int .i64 (f j)) := by
            rw [(hq4.out.below HB6.out hq4.out.lt).cell, ints_at _ _ _ hjl]
          have f1 : wi.frozen? ⟨wo.heap.size + 1, j, none⟩ = false := hp6.out.free j
          go_wp2
          go_quiet (fail)
          go_wp2
          go_roundw
          case rel =>
            refine ⟨j + 1, by go_num, by omega, (below_drewN HB6.out nq).setCell (by simp) _, ?_⟩
            have := (hp6.out.drewN nq).set j (.int .i64 (-9))
            rw [ints_set] at this
            rw [show (ints N fun i => if i < j + 1 then -9 else f i) = ints N fun i => if i = j then -9 else if i < j then -9 else f i from ints_congr fun i _ => by
              by_cases h1 : i = j
              · subst h1; simp
              · by_cases h2 : i < j
                · rw [if_pos (by omega), if_neg h1, if_pos h2]
                · rw [if_neg (by omega), if_neg h1, if_neg h2]]
            exact this
          case measure => simp [intOf]; omega
        · obtain rfl : j = N := by omega
          go_wp2
          go_roundw
          case rel =>
            refine ⟨k + 1, by go_num, by omega, he4.out.below HB6.out rfl, below_more hB4.out HB6.out hB4.out.size, hr4.out.below HB6.out hr4.out.lt, hq4.out.below HB6.out hq4.out.lt⟩
          case measure => simp [intOf]; omega
    · have h11 := still_any A ca w1.heap.size l wo he4.out hr4.out hl
      go_wp2_with (first
        | (go_at_call 11; with_reducible (refine h11.mono ?_); rintro en w5 ⟨rfl, hw5⟩
           have hB5 : Hid (Below w.heap.size w w5) := below_drawn hB4.out hw5
           clear h11 hw5))
      go_ret
      exact ⟨rfl, hB5.out⟩
end Go.Proofs.YtcalmojhdpagoaaDoor
