/- The walk of the law TraceSums: it returns true, and what was there stays. Conditions: two lists of at most 2^47 bytes together. -/
import Derived.Test.YtcalmojhdpagoaaDoorSumsPlain
namespace Go.Proofs.YtcalmojhdpagoaaDoor
set_option linter.unusedVariables false
open Go.RowKit

set_option maxRecDepth 20000 in
set_option maxHeartbeats 4000000 in
theorem traceSums_any (s : ByteArray) (A B : Option Addr) (ca cb : Nat) (a b : List Ev) (w : World) (ha : Evs w A a) (hb : Evs w B b) (hA : A = none → ca = 0) (hB : B = none → cb = 0)
    (hlab : (a.length + b.length) * 32 ≤ 140737488355328) (hs : s.size ≤ 9223372036854775807)
    (htab : Lib.TabIs Tryd.prog w "internal/strconv.uint64pow10" .u64 Lib.pow10Tab) :
    Calls Tryd.prog 6 #[.string s, .slice A a.length ca, .slice B b.length cb] w fun e w' => e = .returned (.bool true) ∧ Below w.heap.size w w' := by
  have h7 := examples_any w htab
  have HA := Lib.hid ha
  have HB := Lib.hid hb
  have HnA := Lib.hid hA
  have HnB := Lib.hid hB
  obtain ⟨N, hN⟩ : ∃ N, N = nLines s := ⟨_, rfl⟩
  have HNs : Hid (N ≤ 60001) := by have := nLines_le s; show _ ≤ _; omega
  have hab : (a ++ b).length = a.length + b.length := List.length_append
  have Hab := Lib.hid hab
  have HN := Lib.hid hN
  clear htab ha hb hA hB hab hN
  go_enter Tryd.func6, Tryd.ntmps6
  go_wp2_with (first
    | (go_at_call 7; with_reducible (refine h7.mono ?_); rintro en w1 ⟨rfl, hb1⟩
       have he1 : Hid (Evs w1 A a) := HA.out.below hb1 rfl
       have hf1 : Hid (Evs w1 B b) := HB.out.below hb1 rfl
       have hB1 := Lib.hid hb1
       clear h7 HA HB hb1)
    | (at_builtin; refine put_any _ (.tmp 19) w1.heap.size _ [] a A ca w1 rfl rfl rfl (World.ownsRow_nil _ _ _ _) rfl he1.out HnA.out (by simp; omega) (Nat.le_refl _) ?_; intro v2 w2 ho2 hb2
       have HO2 : Hid (w2.ownsRow w1.heap.size 33 3 v2 a.length (flat a)) := ho2
       have HB2 := Lib.hid hb2
       have hsz2 : w1.heap.size ≤ w2.heap.size := hb2.size
       clear ho2 hb2)
    | (at_builtin; refine put_any (.tmp 20) (.tmp 21) w1.heap.size _ a b B cb w2 rfl rfl rfl HO2.out rfl (hf1.out.below HB2.out rfl) HnB.out (by omega) hsz2 ?_; intro v3 w3 ho3 hb3
       have hb13 := HB2.out.trans hb3
       have he3 : Hid (Evs w3 A a) := he1.out.below hb13 rfl
       have hf3 : Hid (Evs w3 B b) := hf1.out.below hb13 rfl
       have hB3 : Hid (Below w.heap.size w w3) := below_more hB1.out hb13 hB1.out.size
       rw [Hab.out] at ho3
       obtain ⟨C, cc, rfl⟩ := own_shape ho3
       have hg3 : Hid (Evs w3 C (a ++ b)) := own_evs ho3 Hab.out.symm
       have h13 := lines_any s A ca a w3 he3.out hs (by omega)
       rw [← HN.out] at h13
       clear ho3 hb3 hb13 he1 hf1 hB1 HO2 HB2 hsz2)
    | (go_at_call 13; with_reducible (refine h13.mono ?_); rintro en w4 ⟨X, rfl, hx4, hb4⟩
       have he4 : Hid (Evs w4 A a) := he3.out.below hb4 rfl
       have hf4 : Hid (Evs w4 B b) := hf3.out.below hb4 rfl
       have hg4 : Hid (Evs w4 C (a ++ b)) := hg3.out.below hb4 rfl
       have hB4 : Hid (Below w.heap.size w w4) := below_more hB3.out hb4 hB3.out.size
       have hx4' := Lib.hid hx4
       have h13b := lines_any s B cb b w4 hf4.out hs (by omega)
       rw [← HN.out] at h13b
       clear h13 hx4 hb4 he3 hf3 hg3 hB3)
    | (go_at_call 13; with_reducible (refine h13b.mono ?_); rintro en w5 ⟨Y, rfl, hy5, hb5⟩
       have he5 : Hid (Evs w5 A a) := he4.out.below hb5 rfl
       have hf5 : Hid (Evs w5 B b) := hf4.out.below hb5 rfl
       have hg5 : Hid (Evs w5 C (a ++ b)) := hg4.out.below hb5 rfl
       have hB5 : Hid (Below w.heap.size w w5) := below_more hB4.out hb5 hB4.out.size
       have hx5 : Hid (Ints w5 X N fun j => (countAt s a j : Int)) := hx4'.out.below hb5
       have hy5' := Lib.hid hy5
       have h13c := lines_any s C cc (a ++ b) w5 hg5.out hs (by rw [Hab.out]; omega)
       rw [← HN.out, Hab.out] at h13c
       clear h13b hy5 hb5 he4 hf4 hg4 hB4 hx4')
    | (go_at_call 13; with_reducible (refine h13c.mono ?_); rintro en w6 ⟨Z, rfl, hz6, hb6⟩
       have he6 : Hid (Evs w6 A a) := he5.out.below hb6 rfl
       have hf6 : Hid (Evs w6 B b) := hf5.out.below hb6 rfl
       have hg6 : Hid (Evs w6 C (a ++ b)) := hg5.out.below hb6 rfl
       have hB6 : Hid (Below w.heap.size w w6) := below_more hB5.out hb6 hB5.out.size
       have hx6 : Hid (Ints w6 X N fun j => (countAt s a j : Int)) := hx5.out.below hb6
       have hy6 : Hid (Ints w6 Y N fun j => (countAt s b j : Int)) := hy5'.out.below hb6
       have hz6' := Lib.hid hz6
       clear h13c hz6 hb6 he5 hf5 hg5 hB5 hx5 hy5'))
  go_loopw [12] (fun v wr => ∃ k : Nat, v = .int .i64 k ∧ k ≤ N ∧ Hid (∃ n, w6.drewN n = wr)) (fun v _ => N - (intOf v).toNat)
  case atStart => exact ⟨0, rfl, by omega, drawn_refl _⟩
  case round =>
    obtain ⟨k, rfl, hk, H⟩ := hrel
    by_cases hkl : k < N
    · have hNs := HNs.out
      obtain ⟨gx, rfl, rx⟩ := (hx6.out.drawn H.out) (by omega)
      obtain ⟨gy, rfl, ry⟩ := (hy6.out.drawn H.out) (by omega)
      obtain ⟨gz, rfl, rz⟩ := (hz6'.out.drawn H.out) (by omega)
      have c1 := rx.cell k
      have c2 := ry.cell k
      have c3 := rz.cell k
      rw [ints_at _ _ _ hkl] at c1 c2 c3
      rw [countAt_append] at c3
      have q1 := countAt_le s a k
      have q2 := countAt_le s b k
      generalize countAt s a k = p1 at *
      generalize countAt s b k = p2 at *
      have e3 : ((p1 + p2 : Nat) : Int) = (p1 : Int) + (p2 : Int) := by omega
      rw [e3] at c3
      clear e3 rx ry rz
      go_wp2
      go_quiet (fail)
      go_wp2
      go_roundw
      case rel => exact ⟨k + 1, by go_num, by omega, drawn_more H.out _⟩
      case measure => simp [intOf]; omega
    · have h10 := differ_any A B ca cb a b wr (he6.out.drawn H.out) (hf6.out.drawn H.out) (by omega) (by omega)
      have HC1 : Hid (∀ w', (∃ n, w6.drewN n = w') → Calls Tryd.prog 10 #[.slice A a.length ca, .slice A a.length ca] w' fun e w'' => e = .returned (.int .i64 (-1)) ∧ ∃ n, w'.drewN n = w'') := fun w' h => by
        have := differ_any A A ca ca a a w' (he6.out.drawn h) (he6.out.drawn h) (by omega) (by omega)
        rwa [dif_self] at this
      have HC2 : Hid (∀ w', (∃ n, w6.drewN n = w') → Calls Tryd.prog 10 #[.slice C (a.length + b.length) cc, .slice C (a.length + b.length) cc] w' fun e w'' => e = .returned (.int .i64 (-1)) ∧ ∃ n, w'.drewN n = w'') := fun w' h => by
        have := differ_any C C cc cc (a ++ b) (a ++ b) w' (hg6.out.drawn h) (hg6.out.drawn h) (by rw [Hab.out]; omega) (by rw [Hab.out]; omega)
        rwa [dif_self, Hab.out] at this
      have HC0 : Hid (∀ w', (∃ n, w6.drewN n = w') → Calls Tryd.prog 10 #[.slice A a.length ca, .slice C (a.length + b.length) cc] w' fun e w'' => e = .returned (.int .i64 (if 0 < b.length then (a.length : Int) else -1)) ∧ ∃ n, w'.drewN n = w'') := fun w' h => by
        have := differ_any A C ca cc a (a ++ b) w' (he6.out.drawn h) (hg6.out.drawn h) (by omega) (by rw [Hab.out]; omega)
        rwa [dif_front, Hab.out] at this
      clear hg6 hx6 hy6 hz6'
      rcases dif_ways a b with ⟨hab, hd⟩ | ⟨hd, hp⟩
      · rw [hd] at h10
        subst hab
        clear hd
        go_wp2_with (first
          | (go_at_call 10; with_reducible (refine h10.mono ?_); rintro en w8 ⟨rfl, hw8⟩
             have hW8 := drawn_trans H.out hw8
             clear h10 hw8))
        clear H
        go_loopw [14] (fun v wr => ∃ k : Nat, v = .int .i64 k ∧ k ≤ a.length ∧ Hid (∃ n, w6.drewN n = wr)) (fun v _ => a.length - (intOf v).toNat)
        case atStart => exact ⟨0, rfl, by omega, hW8⟩
        case round =>
          rename World => w9
          clear hW8
          obtain ⟨j, rfl, hj, H⟩ := hrel
          by_cases hjl : j < a.length
          · obtain ⟨b1, off1, rfl, hbb1, hcell1⟩ := Evs.at_ (he6.out.drawn H.out) (by omega)
            obtain ⟨b2, off2, rfl, hbb2, hcell2⟩ := Evs.at_ (hf6.out.drawn H.out) (by omega)
            obtain ⟨a1, a2, a3⟩ := hcell1 j (by omega)
            obtain ⟨c1, c2, c3⟩ := hcell2 j (by omega)
            have hse := (sameEv_iff a[j] a[j]).2 rfl
            clear hcell1 hcell2
            go_wp2
            go_quiet (fail)
            go_wp2
            go_roundw
            case rel => exact ⟨j + 1, by go_num, by omega, drawn_more H.out _⟩
            case measure => simp [intOf]; omega
          · obtain rfl : j = a.length := by omega
            by_cases hb0 : 0 < a.length
            · have HC3 : Hid (∀ w', (∃ n, w6.drewN n = w') → Calls Tryd.prog 10 #[.slice A a.length ca, .slice C (a.length + a.length) cc] w' fun e w'' => e = .returned (.int .i64 a.length) ∧ ∃ n, w'.drewN n = w'') := fun w' h => by
                have := HC0.out w' h
                rwa [if_pos hb0] at this
              go_wp2
              go_quiet (fail)
              have hW := drawn_more H.out nq
              go_wp2_with (first
                | (go_at_call 10; with_reducible (refine (HC1.out _ hW).mono ?_); rintro en wa ⟨rfl, hwa⟩
                   have hWa := drawn_trans hW hwa
                   clear HC1 hwa)
                | (go_at_call 10; with_reducible (refine (HC2.out _ hWa).mono ?_); rintro en wb ⟨rfl, hwb⟩
                   have hWb := drawn_trans hWa hwb
                   clear HC2 hwb)
                | (go_at_call 10; with_reducible (refine (HC3.out _ hWb).mono ?_); rintro en wc ⟨rfl, hwc⟩
                   have hWc := drawn_trans hWb hwc
                   clear HC3 hwc))
              go_ret
              exact ⟨rfl, below_drawn hB6.out hWc⟩
            · have HC3 : Hid (∀ w', (∃ n, w6.drewN n = w') → Calls Tryd.prog 10 #[.slice A a.length ca, .slice C (a.length + a.length) cc] w' fun e w'' => e = .returned (.int .i64 (-1)) ∧ ∃ n, w'.drewN n = w'') := fun w' h => by
                have := HC0.out w' h
                rwa [if_neg hb0] at this
              go_wp2
              go_quiet (fail)
              have hW := drawn_more H.out nq
              go_wp2_with (first
                | (go_at_call 10; with_reducible (refine (HC1.out _ hW).mono ?_); rintro en wa ⟨rfl, hwa⟩
                   have hWa := drawn_trans hW hwa
                   clear HC1 hwa)
                | (go_at_call 10; with_reducible (refine (HC2.out _ hWa).mono ?_); rintro en wb ⟨rfl, hwb⟩
                   have hWb := drawn_trans hWa hwb
                   clear HC2 hwb)
                | (go_at_call 10; with_reducible (refine (HC3.out _ hWb).mono ?_); rintro en wc ⟨rfl, hwc⟩
                   have hWc := drawn_trans hWb hwc
                   clear HC3 hwc))
              go_ret
              exact ⟨rfl, below_drawn hB6.out hWc⟩

      · obtain ⟨p, hp0⟩ : ∃ p, p = pre a b := ⟨_, rfl⟩
        have hple := pre_le a b
        have HPA := Lib.hid (pre_at a b)
        have HPE := Lib.hid (pre_end a b)
        rw [← hp0] at hp hple HPA
        have HPE : Hid (∀ (h1 : p < a.length) (h2 : p < b.length), a[p] ≠ b[p]) := by
          subst hp0; exact HPE.out
        have hd' : dif a b = (p : Int) := by rw [hd, hp0]
        rw [hd'] at h10
        clear hd hd' hp0
        obtain ⟨hpa, hpb⟩ := hple
        have hd1 : ¬ ((p : Int) < -1) := by omega
        have hd2 : ¬ a.length < p := by omega
        have hd3 : ¬ b.length < p := by omega
        have hd4 : ((p : Int) == -1) = false := by simp <;> omega
        go_wp2_with (first
          | (go_at_call 10; with_reducible (refine h10.mono ?_); rintro en w8 ⟨rfl, hw8⟩
             have hW8 := drawn_trans H.out hw8
             clear h10 hw8))
        clear H
        go_loopw [14] (fun v wr => ∃ k : Nat, v = .int .i64 k ∧ k ≤ p ∧ Hid (∃ n, w6.drewN n = wr)) (fun v _ => p - (intOf v).toNat)
        case atStart => exact ⟨0, rfl, by omega, hW8⟩
        case round =>
          rename World => w9
          clear hW8
          obtain ⟨j, rfl, hj, H⟩ := hrel
          by_cases hjl : j < p
          · obtain ⟨b1, off1, rfl, hbb1, hcell1⟩ := Evs.at_ (he6.out.drawn H.out) (by omega)
            obtain ⟨b2, off2, rfl, hbb2, hcell2⟩ := Evs.at_ (hf6.out.drawn H.out) (by omega)
            obtain ⟨a1, a2, a3⟩ := hcell1 j (by omega)
            obtain ⟨c1, c2, c3⟩ := hcell2 j (by omega)
            have hse : sameEv a[j].k a[j].p a[j].s b[j].k b[j].p b[j].s = true := (sameEv_iff _ _).2 (HPA.out j (by omega) (by omega) hjl)
            clear hcell1 hcell2
            go_wp2
            go_quiet (fail)
            go_wp2
            go_roundw
            case rel => exact ⟨j + 1, by go_num, by omega, drawn_more H.out _⟩
            case measure => simp [intOf]; omega
          · obtain rfl : j = p := by omega
            clear hj hjl HPA
            rcases hp with ⟨hp1, hp2⟩ | ⟨hp1, hp2⟩ | ⟨hp1, hp2⟩
            · subst hp1
              have hq1 : ((a.length : Int) == -1) = false := by simp <;> omega
              have hq3 : ((a.length : Int) == (b.length : Int)) = false := by simp <;> omega
              by_cases hb0 : 0 < b.length
              · have HC3 : Hid (∀ w', (∃ n, w6.drewN n = w') → Calls Tryd.prog 10 #[.slice A a.length ca, .slice C (a.length + b.length) cc] w' fun e w'' => e = .returned (.int .i64 a.length) ∧ ∃ n, w'.drewN n = w'') := fun w' h => by
                  have := HC0.out w' h
                  rwa [if_pos hb0] at this
                go_wp2
                go_quiet (fail)
                have hW := drawn_more H.out nq
                go_wp2_with (first
                  | (go_at_call 10; with_reducible (refine (HC1.out _ hW).mono ?_); rintro en wa ⟨rfl, hwa⟩
                     have hWa := drawn_trans hW hwa
                     clear HC1 hwa)
                  | (go_at_call 10; with_reducible (refine (HC2.out _ hWa).mono ?_); rintro en wb ⟨rfl, hwb⟩
                     have hWb := drawn_trans hWa hwb
                     clear HC2 hwb)
                  | (go_at_call 10; with_reducible (refine (HC3.out _ hWb).mono ?_); rintro en wc ⟨rfl, hwc⟩
                     have hWc := drawn_trans hWb hwc
                     clear HC3 hwc))
                go_ret
                exact ⟨rfl, below_drawn hB6.out hWc⟩
              · omega
            · subst hp1
              have hq1 : ((b.length : Int) == -1) = false := by simp <;> omega
              have hq2 : ((b.length : Int) == (a.length : Int)) = false := by simp <;> omega
              by_cases hb0 : 0 < b.length
              · have HC3 : Hid (∀ w', (∃ n, w6.drewN n = w') → Calls Tryd.prog 10 #[.slice A a.length ca, .slice C (a.length + b.length) cc] w' fun e w'' => e = .returned (.int .i64 a.length) ∧ ∃ n, w'.drewN n = w'') := fun w' h => by
                  have := HC0.out w' h
                  rwa [if_pos hb0] at this
                go_wp2
                go_quiet (fail)
                have hW := drawn_more H.out nq
                go_wp2_with (first
                  | (go_at_call 10; with_reducible (refine (HC1.out _ hW).mono ?_); rintro en wa ⟨rfl, hwa⟩
                     have hWa := drawn_trans hW hwa
                     clear HC1 hwa)
                  | (go_at_call 10; with_reducible (refine (HC2.out _ hWa).mono ?_); rintro en wb ⟨rfl, hwb⟩
                     have hWb := drawn_trans hWa hwb
                     clear HC2 hwb)
                  | (go_at_call 10; with_reducible (refine (HC3.out _ hWb).mono ?_); rintro en wc ⟨rfl, hwc⟩
                     have hWc := drawn_trans hWb hwc
                     clear HC3 hwc))
                go_ret
                exact ⟨rfl, below_drawn hB6.out hWc⟩
              · have HC3 : Hid (∀ w', (∃ n, w6.drewN n = w') → Calls Tryd.prog 10 #[.slice A a.length ca, .slice C (a.length + b.length) cc] w' fun e w'' => e = .returned (.int .i64 (-1)) ∧ ∃ n, w'.drewN n = w'') := fun w' h => by
                  have := HC0.out w' h
                  rwa [if_neg hb0] at this
                go_wp2
                go_quiet (fail)
                have hW := drawn_more H.out nq
                go_wp2_with (first
                  | (go_at_call 10; with_reducible (refine (HC1.out _ hW).mono ?_); rintro en wa ⟨rfl, hwa⟩
                     have hWa := drawn_trans hW hwa
                     clear HC1 hwa)
                  | (go_at_call 10; with_reducible (refine (HC2.out _ hWa).mono ?_); rintro en wb ⟨rfl, hwb⟩
                     have hWb := drawn_trans hWa hwb
                     clear HC2 hwb)
                  | (go_at_call 10; with_reducible (refine (HC3.out _ hWb).mono ?_); rintro en wc ⟨rfl, hwc⟩
                     have hWc := drawn_trans hWb hwc
                     clear HC3 hwc))
                go_ret
                exact ⟨rfl, below_drawn hB6.out hWc⟩
            · have hq1 : ((j : Int) == -1) = false := by simp <;> omega
              have hq2 : ((j : Int) == (a.length : Int)) = false := by simp <;> omega
              have hq3 : ((j : Int) == (b.length : Int)) = false := by simp <;> omega
              have hse : sameEv a[j].k a[j].p a[j].s b[j].k b[j].p b[j].s = false := by
                cases h : sameEv a[j].k a[j].p a[j].s b[j].k b[j].p b[j].s with
                | false => rfl
                | true => exact absurd ((sameEv_iff _ _).1 h) (HPE.out hp1 hp2)
              by_cases hb0 : 0 < b.length
              · have HC3 : Hid (∀ w', (∃ n, w6.drewN n = w') → Calls Tryd.prog 10 #[.slice A a.length ca, .slice C (a.length + b.length) cc] w' fun e w'' => e = .returned (.int .i64 a.length) ∧ ∃ n, w'.drewN n = w'') := fun w' h => by
                  have := HC0.out w' h
                  rwa [if_pos hb0] at this
                obtain ⟨b1, off1, rfl, hbb1, hcell1⟩ := Evs.at_ (he6.out.drawn H.out) (by omega)
                obtain ⟨b2, off2, rfl, hbb2, hcell2⟩ := Evs.at_ (hf6.out.drawn H.out) (by omega)
                obtain ⟨a1, a2, a3⟩ := hcell1 j hp1
                obtain ⟨c1, c2, c3⟩ := hcell2 j hp2
                clear hcell1 hcell2
                go_wp2
                go_quiet (fail)
                have hW := drawn_more H.out nq
                go_wp2_with (first
                  | (go_at_call 10; with_reducible (refine (HC1.out _ hW).mono ?_); rintro en wa ⟨rfl, hwa⟩
                     have hWa := drawn_trans hW hwa
                     clear HC1 hwa)
                  | (go_at_call 10; with_reducible (refine (HC2.out _ hWa).mono ?_); rintro en wb ⟨rfl, hwb⟩
                     have hWb := drawn_trans hWa hwb
                     clear HC2 hwb)
                  | (go_at_call 10; with_reducible (refine (HC3.out _ hWb).mono ?_); rintro en wc ⟨rfl, hwc⟩
                     have hWc := drawn_trans hWb hwc
                     clear HC3 hwc))
                go_ret
                exact ⟨rfl, below_drawn hB6.out hWc⟩
              · omega
end Go.Proofs.YtcalmojhdpagoaaDoor
