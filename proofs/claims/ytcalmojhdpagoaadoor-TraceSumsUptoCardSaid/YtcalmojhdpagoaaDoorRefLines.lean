/- The walk of guiseref17.Lines. -/
import Derived.Test.YtcalmojhdpagoaaDoorLines
namespace Go.Proofs.YtcalmojhdpagoaaDoor
open Go.RowKit

/-- Of a text that is too long: nothing. -/
theorem refLines_long (s : ByteArray) (A : Option Addr) (ca : Nat) (l : List Ev) (w : World) (hs : 60000 < s.size) (hs' : s.size ≤ 9223372036854775807) :
    Calls Tryd.prog 12 #[.string s, .slice A l.length ca] w fun e w' => e = .returned (.slice none 0 0) ∧ w = w' := by
  go_enter Tryd.func12, Tryd.ntmps12
  go_wp2
  go_ret
  exact ⟨rfl, rfl⟩

set_option maxHeartbeats 400000 in
theorem refLines_short (s : ByteArray) (A : Option Addr) (ca : Nat) (l : List Ev) (w : World) (ha : Evs w A l) (hs : s.size ≤ 60000) (hl : l.length * 32 ≤ 140737488355328) :
    Calls Tryd.prog 12 #[.string s, .slice A l.length ca] w fun e w' => e = .returned (.slice (some ⟨w.heap.size + 1, 0, none⟩) (lineOf s s.size + 1) (lineOf s s.size + 1)) ∧
      Row w' (w.heap.size + 1) 3 ((lns s l).map (Value.int .i64)) ∧ Below w.heap.size w w' := by
  have hmk := make_ints (s.size + 1) (by omega)
  rw [show ((s.size + 1 : Nat) : Int) = (s.size : Int) + 1 by omega] at hmk
  have HA := Lib.hid ha
  clear ha
  have hz : Row (w.alloc (.cells (ints (s.size + 1) fun _ => 0).toArray 3)) w.heap.size 3 (ints (s.size + 1) fun i => if i < 0 then (lineOf s i : Int) else 0) := Row.made w 3 _
  have hb0 : Below w.heap.size w (w.alloc (.cells (ints (s.size + 1) fun _ => 0).toArray 3)) := (Below.refl _ _).alloc (Nat.le_refl _) _
  have hsz0 : (w.alloc (.cells (ints (s.size + 1) fun _ => 0).toArray 3)).heap.size = w.heap.size + 1 := by simp
  have HZ := Lib.hid hz
  have HB0 := Lib.hid hb0
  have HS0 := Lib.hid hsz0
  clear hz hb0 hsz0
  go_enter Tryd.func12, Tryd.ntmps12
  go_wp2
  go_loopw [6, 7] (fun n i wr => ∃ k : Nat, i = .int .i64 k ∧ k ≤ s.size ∧ n = .int .i64 (lineOf s k) ∧ Hid (Row wr w.heap.size 3 (ints (s.size + 1) fun i => if i < k then (lineOf s i : Int) else 0)) ∧ Hid (Below w.heap.size w wr) ∧ Hid (wr.heap.size = w.heap.size + 1)) (fun _ i _ => s.size - (intOf i).toNat)
  case atStart => exact ⟨0, rfl, Nat.zero_le _, by rw [lineOf_zero]; rfl, HZ, HB0, HS0⟩
  case round =>
    obtain ⟨k, rfl, hk, rfl, HR, HB, HS⟩ := hrel
    by_cases hlt : k < s.size
    · have hc : wr.cell? ⟨w.heap.size, k, none⟩ = some (.int .i64 0) := by
        rw [HR.out.cell, ints_at _ _ _ (by omega)]; simp
      have hf : wr.frozen? ⟨w.heap.size, k, none⟩ = false := HR.out.free k
      have hle := lineOf_le s k
      have HL := Lib.hid (lineOf_succ s k hlt)
      have HR' : Row (wr.setCell ⟨w.heap.size, k, none⟩ (.int .i64 (lineOf s k))) w.heap.size 3 (ints (s.size + 1) fun i => if i < k + 1 then (lineOf s i : Int) else 0) := by
        have := HR.out.set k (.int .i64 (lineOf s k))
        rw [ints_set] at this
        rw [show (ints (s.size + 1) fun i => if i < k + 1 then (lineOf s i : Int) else 0) = ints (s.size + 1) fun i => if i = k then (lineOf s k : Int) else if i < k then (lineOf s i : Int) else 0 from ints_congr fun i _ => by
          by_cases h1 : i = k
          · subst h1; simp
          · by_cases h2 : i < k
            · rw [if_pos (by omega), if_neg h1, if_pos h2]
            · rw [if_neg (by omega), if_neg h1, if_neg h2]]
        exact this
      have HR2 := Lib.hid HR'
      clear HR'
      by_cases h10 : s[k] = 10
      · have hb : ((s[k].toNat : Int) == 10) = true := by rw [h10]; rfl
        have HL2 : Hid (lineOf s (k + 1) = lineOf s k + 1) := by have := HL.out; rw [if_pos h10] at this; exact this
        clear h10
        go_wp2
        go_roundw
        case rel => exact ⟨k + 1, by go_num, by omega, by rw [HL2.out]; go_num, HR2.out, HB.out.setCell (Nat.le_refl _) _, by show Array.size _ = _; simp [World.setCell, HS.out]⟩
        case measure => simp [intOf]; omega
      · have hb : ((s[k].toNat : Int) == 10) = false := by
          cases h : ((s[k].toNat : Int) == 10) with
          | false => rfl
          | true => exact absurd (by have := eq_of_beq h; exact UInt8.toNat_inj.1 (by show s[k].toNat = 10; omega)) h10
        have HL2 : Hid (lineOf s (k + 1) = lineOf s k) := by have := HL.out; rw [if_neg h10] at this; exact this
        clear h10
        go_wp2
        go_roundw
        case rel => exact ⟨k + 1, by go_num, by omega, by rw [HL2.out], HR2.out, HB.out.setCell (Nat.le_refl _) _, by show Array.size _ = _; simp [World.setCell, HS.out]⟩
        case measure => simp [intOf]; omega
    · obtain rfl : k = s.size := by omega
      have hc : wr.cell? ⟨w.heap.size, s.size, none⟩ = some (.int .i64 0) := by
        rw [HR.out.cell, ints_at _ _ _ (by omega)]; simp
      have hf : wr.frozen? ⟨w.heap.size, s.size, none⟩ = false := HR.out.free _
      have hle := lineOf_le s s.size
      have hmk2 := make_ints (lineOf s s.size + 1) (by omega)
      rw [show ((lineOf s s.size + 1 : Nat) : Int) = (lineOf s s.size : Int) + 1 by omega] at hmk2
      have hS := HS.out
      have hbw := HB.out
      have hr1 : Row (wr.setCell ⟨w.heap.size, s.size, none⟩ (.int .i64 (lineOf s s.size))) w.heap.size 3 (ints (s.size + 1) fun i => (lineOf s i : Int)) := by
        have := HR.out.set s.size (.int .i64 (lineOf s s.size))
        rw [ints_set] at this
        rw [show (ints (s.size + 1) fun i => (lineOf s i : Int)) = ints (s.size + 1) fun i => if i = s.size then (lineOf s s.size : Int) else if i < s.size then (lineOf s i : Int) else 0 from ints_congr fun i hi => by
          by_cases h1 : i = s.size
          · subst h1; simp
          · rw [if_neg h1, if_pos (by omega)]]
        exact this
      have hs1 : (wr.setCell ⟨w.heap.size, s.size, none⟩ (.int .i64 (lineOf s s.size))).heap.size = w.heap.size + 1 := by show Array.size _ = _; simp [World.setCell, hS]
      have hb1 : Below w.heap.size w (wr.setCell ⟨w.heap.size, s.size, none⟩ (.int .i64 (lineOf s s.size))) := hbw.setCell (Nat.le_refl _) _
      have hr2 := hr1.alloc (.cells (ints (lineOf s s.size + 1) fun _ => 0).toArray 3)
      have hr3 := Row.made (wr.setCell ⟨w.heap.size, s.size, none⟩ (.int .i64 (lineOf s s.size))) 3 (ints (lineOf s s.size + 1) fun _ => 0)
      rw [hs1] at hr3
      have hb2 := hb1.alloc (by omega) (.cells (ints (lineOf s s.size + 1) fun _ => 0).toArray 3)
      have hs2 : w.heap.size + 2 ≤ ((wr.setCell ⟨w.heap.size, s.size, none⟩ (.int .i64 (lineOf s s.size))).alloc (.cells (ints (lineOf s s.size + 1) fun _ => 0).toArray 3)).heap.size := by simp [hs1]
      have H2 := Lib.hid hr2
      have H3 := Lib.hid hr3
      have HB2 := Lib.hid hb2
      have HS2 := Lib.hid hs2
      clear hr1 hs1 hb1 hr2 hr3 hb2 hs2 hbw
      go_wp2
      go_loopw [9] (fun i w2 => ∃ k : Nat, i = .int .i64 k ∧ k ≤ l.length ∧ Hid (Row w2 w.heap.size 3 (ints (s.size + 1) fun i => (lineOf s i : Int))) ∧
        Hid (Row w2 (w.heap.size + 1) 3 (ints (lineOf s s.size + 1) fun j => (countAt s (l.take k) j : Int))) ∧ Hid (Below w.heap.size w w2) ∧ Hid (w.heap.size + 2 ≤ w2.heap.size)) (fun i _ => l.length - (intOf i).toNat)
      case atStart => exact ⟨0, rfl, Nat.zero_le _, H2, by simpa [countAt] using H3, HB2, HS2⟩
      case round =>
        clear H2 H3 HB2 HS2 hc hf
        clear HR HB HS
        clear hS hmk2
        obtain ⟨k, rfl, hk1, HR, HO, HB, HS⟩ := hrel
        by_cases hlk : k < l.length
        · obtain ⟨b, off, rfl, hbl, hcell⟩ := Evs.at_ HA.out (by omega)
          obtain ⟨a1, a2, a3⟩ := hcell k hlk
          have hbe : ∀ o, wr.cell? ⟨b, o, none⟩ = w.cell? ⟨b, o, none⟩ := fun o => HB.out.cell (p := ⟨b, o, none⟩) hbl
          rw [← hbe] at a1 a2 a3
          have hT := Lib.hid (take_snoc l k hlk)
          obtain ⟨e, he⟩ : ∃ e, e = l[k] := ⟨_, rfl⟩
          rw [← he] at a1 a2 a3 hT
          have hsz := HS.out
          clear hcell hbe he
          obtain ⟨ek, ep, es⟩ := e
          dsimp only at a1 a2 a3
          by_cases hhit : ek = 1 ∧ 0 ≤ ep ∧ ep ≤ s.size
          · obtain ⟨rfl, hp0, hp1⟩ := hhit
            obtain ⟨q, rfl⟩ := Int.eq_ofNat_of_zero_le hp0
            have hq : q ≤ s.size := by omega
            have hm := lineOf_mono s q s.size hq
            have hcl := countAt_le s (l.take k) (lineOf s q)
            have htl : (l.take k).length ≤ k := List.length_take_le _ _
            have f1 : wr.cell? ⟨w.heap.size, q, none⟩ = some (.int .i64 (lineOf s q)) := by
              rw [HR.out.cell, ints_at _ _ _ (by omega)]
            have f2 : wr.cell? ⟨w.heap.size + 1, lineOf s q, none⟩ = some (.int .i64 (countAt s (l.take k) (lineOf s q))) := by
              rw [HO.out.cell, ints_at _ _ _ (by omega)]
            have f3 : wr.frozen? ⟨w.heap.size + 1, lineOf s q, none⟩ = false := HO.out.free _
            have HC := Lib.hid (count_hit s l k q es hT.out hq (lineOf s s.size + 1))
            clear hp0
            go_wp2
            go_roundw
            case rel =>
              refine ⟨k + 1, by go_num, by omega, HR.out.setFar (by simp) _, ?_, HB.out.setCell (by simp) _, ?_⟩
              · rw [← HC.out]
                exact HO.out.set _ _
              · show _ ≤ Array.size _
                simp [World.setCell]
                omega
            case measure => simp [intOf]; omega
          · have HC := Lib.hid (count_miss s l k _ hT.out hhit (lineOf s s.size + 1))
            have hways : ek ≠ 1 ∨ (ek = 1 ∧ ep < 0) ∨ (ek = 1 ∧ 0 ≤ ep ∧ (s.size : Int) < ep) := by omega
            clear hhit
            rcases hways with h1 | ⟨rfl, h2⟩ | ⟨rfl, h2, h3⟩
            · have hb : (ek == 1) = false := by simp [h1]
              clear h1
              go_wp2
              go_roundw
              case rel =>
                refine ⟨k + 1, by go_num, by omega, HR.out, ?_, HB.out, HS.out⟩
                rw [← HC.out]; exact HO.out
              case measure => simp [intOf]; omega
            · go_wp2
              go_roundw
              case rel =>
                refine ⟨k + 1, by go_num, by omega, HR.out, ?_, HB.out, HS.out⟩
                rw [← HC.out]; exact HO.out
              case measure => simp [intOf]; omega
            · go_wp2
              go_roundw
              case rel =>
                refine ⟨k + 1, by go_num, by omega, HR.out, ?_, HB.out, HS.out⟩
                rw [← HC.out]; exact HO.out
              case measure => simp [intOf]; omega
        · have hkl : k = l.length := by omega
          subst hkl
          have HO' := HO.out
          rw [List.take_length, ← lns_row] at HO'
          have HO2 := Lib.hid HO'
          clear HO' HO
          go_wp2
          go_ret
          exact ⟨rfl, HO2.out, HB.out⟩
end Go.Proofs.YtcalmojhdpagoaaDoor
