/- guiseref6.Digits of a number from 0 on. Condition: below 10 to the 18. -/
import Derived.Test.YtehakhplglhkdaaGreatDoorRefOwn
import Derived.Lib.ItoaMem
namespace Go.Proofs.YtehakhplglhkdaaGreatDoor
set_option linter.unusedVariables false
open Go.RowKit

/-- n's digits, the last first; none for 0. -/
def revD (n : Nat) : List UInt8 := if h : n = 0 then [] else UInt8.ofNat (48 + n % 10) :: revD (n / 10)
termination_by n
decreasing_by omega
theorem revD_zero : revD 0 = [] := by rw [revD]; simp
theorem revD_pos {n : Nat} (h : n ≠ 0) : revD n = UInt8.ofNat (48 + n % 10) :: revD (n / 10) := by rw [revD]; simp [h]
theorem revD_length_le : ∀ (k n : Nat), n < 10 ^ k → (revD n).length ≤ k
  | 0, n, h => by
    have : n = 0 := by simpa using h
    subst this; rw [revD_zero]; simp
  | k + 1, n, h => by
    by_cases hn : n = 0
    · subst hn; rw [revD_zero]; simp
    · rw [revD_pos hn, List.length_cons]
      have := revD_length_le k (n / 10) (by rw [Nat.pow_succ] at h; omega)
      omega
theorem revD_dec : ∀ (n : Nat), n ≠ 0 → (revD n).reverse = Lib.decDigits n := by
  intro n
  induction n using Nat.strongRecOn with
  | ind n ih =>
    intro hn
    rw [revD_pos hn, Lib.decDigits, List.reverse_cons]
    by_cases h : n < 10
    · rw [dif_pos h]
      have : n / 10 = 0 := by omega
      rw [this, revD_zero, show n % 10 = n by omega]
      rfl
    · rw [dif_neg h, ih (n / 10) (by omega) (by omega)]

/-- l with its k first swapped with its k last. -/
def swapped (l : List UInt8) (k : Nat) : List UInt8 := (List.range l.length).map fun j => if j < k ∨ l.length - k ≤ j then l.getD (l.length - 1 - j) 0 else l.getD j 0
theorem swapped_length (l : List UInt8) (k : Nat) : (swapped l k).length = l.length := by simp [swapped]
theorem swapped_zero (l : List UInt8) : swapped l 0 = l := by
  apply List.ext_getElem
  · simp [swapped]
  · intro i h1 h2
    simp [swapped]
    rw [if_neg (by omega)]
    simp [List.getElem?_eq_getElem h2]
theorem swapped_half (l : List UInt8) : swapped l (l.length / 2) = l.reverse := by
  apply List.ext_getElem
  · simp [swapped]
  · intro i h1 h2
    rw [List.getElem_reverse]
    simp only [swapped, List.getElem_map, List.getElem_range]
    have h3 : i < l.length := by simpa using h2
    split
    · rw [List.getD_eq_getElem?_getD, List.getElem?_eq_getElem (by omega)]; rfl
    · have : l.length - 1 - i = i := by omega
      rw [List.getD_eq_getElem?_getD, List.getElem?_eq_getElem (by omega)]
      simp [this]
theorem swapped_at (l : List UInt8) (k j : Nat) (hj : j < l.length) : (swapped l k)[j]? = some (if j < k ∨ l.length - k ≤ j then l.getD (l.length - 1 - j) 0 else l.getD j 0) := by
  simp [swapped, hj]
theorem swapped_succ (l : List UInt8) (k : Nat) (hk : k < l.length / 2) :
    ((swapped l k).set k (l.getD (l.length - 1 - k) 0)).set (l.length - 1 - k) (l.getD k 0) = swapped l (k + 1) := by
  apply List.ext_getElem?
  intro j
  by_cases hj : j < l.length
  · rw [swapped_at l (k + 1) j hj]
    simp only [List.getElem?_set, List.length_set, swapped_length]
    by_cases h1 : l.length - 1 - k = j
    · rw [if_pos h1, if_pos (by omega), if_pos (by omega)]
      congr 2
      omega
    · rw [if_neg h1]
      by_cases h2 : k = j
      · rw [if_pos h2, if_pos (by omega), if_pos (by omega), h2]
      · rw [if_neg h2, swapped_at l k j hj]
        congr 1
        by_cases h3 : j < k ∨ l.length - k ≤ j
        · rw [if_pos h3, if_pos (by omega)]
        · rw [if_neg h3, if_neg (by omega)]
  · rw [List.getElem?_eq_none (by simp [swapped_length]; omega), List.getElem?_eq_none (by rw [swapped_length]; omega)]

theorem OwnB.stored {Bo g c n : Nat} {w : World} {l : List UInt8} (h : OwnB Bo w (.slice (some ⟨g, 0, none⟩) n c) l) (j : Nat) (u : UInt8) : OwnB Bo (w.setCell ⟨g, j, none⟩ (.int .u8 u.toNat)) (.slice (some ⟨g, 0, none⟩) n c) (l.set j u) := by
  unfold OwnB at *
  have hn : n = l.length := by
    rcases h.2 with ⟨hv, h0⟩ | ⟨_, _, _, hv, _⟩
    · cases hv
    · injection hv
  subst hn
  have := (World.ownsRow.stored h j (.int .u8 u.toNat)).1
  rw [List.length_set]
  have hc : (Lib.byteCells l).set j (.int .u8 u.toNat) = Lib.byteCells (l.set j u) := by simp [Lib.byteCells, List.map_set]
  rwa [hc] at this
theorem OwnB.below {Bo g c n : Nat} {w : World} {l : List UInt8} (h : OwnB Bo w (.slice (some ⟨g, 0, none⟩) n c) l) (j : Nat) (u : Value) : Below Bo w (w.setCell ⟨g, j, none⟩ u) :=
  (Below.refl _ _).setCell (h.lt g rfl).1 u
theorem OwnB.cell {Bo g c n : Nat} {w : World} {l : List UInt8} (h : OwnB Bo w (.slice (some ⟨g, 0, none⟩) n c) l) {j : Nat} {u : UInt8} (hj : l[j]? = some u) : w.cell? ⟨g, j, none⟩ = some (.int .u8 u.toNat) := by
  have := h.cells (g := g) rfl j (.int .u8 u.toNat) (by simp [Lib.byteCells, hj])
  rw [Addr.add_lit, Nat.zero_add] at this
  exact this

theorem fresh_own {Bo : Nat} {w : World} (l : List UInt8) (hB : Bo ≤ w.heap.size) (hl : l.length ≤ 9223372036854775807) : OwnB Bo (w.alloc (.cells (Lib.byteCells l).toArray 5)) (.slice (some ⟨w.heap.size, 0, none⟩) l.length l.length) l := by
  have := World.ownsRow_lit (base := Bo) (e := 5) (size := 1) w (Lib.byteCells l).toArray l.length hB (by simp only [maxLen]; omega) (by simp [Lib.byteCells])
  exact this
theorem dig_cell (n : Nat) (h : n < 208) : Lib.byteCells [UInt8.ofNat (48 + n)] = [.int .u8 (48 + (n : Int))] := by
  simp only [Lib.byteCells, List.map_cons, List.map_nil, UInt8.toNat_ofNat']
  congr 2
  have : (48 + n) % 2 ^ 8 = 48 + n := Nat.mod_eq_of_lt (by omega)
  rw [this]
  omega

set_option maxRecDepth 200000 in
set_option maxHeartbeats 2000000 in
theorem refdigits_nat (w : World) (d : Nat) (hd : d < 10 ^ 18) : Calls Tryz.prog 49 #[.int .i64 d] w fun en w' => en = .returned (.string ⟨(Lib.itoa d).toArray⟩) ∧ Below w.heap.size w w' := by
  by_cases h10 : d < 10
  · obtain ⟨b, hb⟩ : ∃ b, b = UInt8.ofNat (48 + d) := ⟨_, rfl⟩
    have hdig : Hid (Lib.itoa d = [b]) := by
      show Lib.itoa d = _
      rw [Lib.itoa_nonneg, Lib.decDigits_one h10, hb]
    have hf := fresh_own (w := w) [b] (Nat.le_refl _) (by simp)
    rw [hb, dig_cell d (by omega), ← hb] at hf
    have hconv : (convert 107 9 (.slice (some ⟨w.heap.size, 0, none⟩) 1 1)).run Tryz.prog (w.alloc (.cells #[.int .u8 (48 + (d : Int))] 5)) = _ := conv_own hf
    have HB : Hid (Below w.heap.size w (w.alloc (.cells #[.int .u8 (48 + (d : Int))] 5))) := (Below.refl _ _).alloc (Nat.le_refl _) _
    clear hf hb
    go_enter Tryz.func49, Tryz.ntmps49
    go_wp2
    go_ret
    exact ⟨by rw [hdig.out]; rfl, HB.out⟩
  · have hd10 : (decide ((d : Int) < 10)) = false := decide_eq_false (by omega)
    go_enter Tryz.func49, Tryz.ntmps49
    go_wp2_with fail
    go_loopw [0, 4] (fun v b wr => ∃ (n : Nat) (l : List UInt8), v = .int .i64 n ∧ n < 10 ^ 18 ∧ Hid (OwnB w.heap.size wr b l) ∧ Hid (l ++ revD n = revD d) ∧ Hid (Below w.heap.size w wr)) (fun v _ _ => (intOf v).toNat)
    case atStart => exact ⟨d, [], rfl, hd, OwnB.nil _ _, rfl, Below.refl _ _⟩
    case round =>
      obtain ⟨n, l, rfl, hn, HO, HL, HB⟩ := hrel
      rename World => w1
      by_cases h0 : n = 0
      · subst h0
        have ho := HO.out
        have hl : l = revD d := by have := HL.out; rw [revD_zero, List.append_nil] at this; exact this
        rw [hl] at ho
        obtain ⟨R, hR⟩ : ∃ R, R = revD d := ⟨_, rfl⟩
        rw [← hR] at ho
        have hRl : R.length ≤ 18 := by rw [hR]; exact revD_length_le 18 d hd
        have hRp : 0 < R.length := by rw [hR, revD_pos (by omega)]; simp
        have hRR : Hid (R.reverse = Lib.itoa d) := by show R.reverse = _; rw [hR, Lib.itoa_nonneg]; exact revD_dec d (by omega)
        obtain ⟨A, cp, rfl⟩ := own_shape ho
        obtain ⟨g, rfl, hgc, hgm⟩ := own_addr ho hRp
        have HO2 := Lib.hid ho
        clear ho hl hR HO HL
        go_wp2_with fail
        go_loopw [6] (fun v wr => ∃ k : Nat, v = .int .i64 k ∧ k ≤ R.length / 2 ∧ Hid (OwnB w.heap.size wr (.slice (some ⟨g, 0, none⟩) R.length cp) (swapped R k)) ∧ Hid (Below w.heap.size w wr)) (fun v _ => R.length / 2 - (intOf v).toNat)
        case atStart => exact ⟨0, rfl, Nat.zero_le _, by rw [swapped_zero]; exact HO2, HB⟩
        case round =>
          rename World => w2
          clear HO2 HB
          obtain ⟨k, rfl, hk, HO, HB⟩ := hrel
          by_cases hlt : k < R.length / 2
          · have f1 := HO.out.cell (swapped_at R k k (by omega))
            have f2 := HO.out.cell (swapped_at R k (R.length - 1 - k) (by omega))
            rw [if_neg (by omega)] at f1 f2
            have g1 : w2.frozen? ⟨g, k, none⟩ = false := World.ownsRow.frozenAt (n := (swapped R k).length) (cap := cp) (by have := HO.out; unfold OwnB at this; rw [swapped_length] at this ⊢; exact this) k
            have g2 : w2.frozen? ⟨g, R.length - 1 - k, none⟩ = false := World.ownsRow.frozenAt (n := (swapped R k).length) (cap := cp) (by have := HO.out; unfold OwnB at this; rw [swapped_length] at this ⊢; exact this) _
            have hst := ((HO.out.stored k (R.getD (R.length - 1 - k) 0)).stored (R.length - 1 - k) (R.getD k 0))
            rw [swapped_succ R k hlt] at hst
            have hbl := (HB.out.trans (HO.out.below k (.int .u8 (R.getD (R.length - 1 - k) 0).toNat))).trans ((HO.out.stored k (R.getD (R.length - 1 - k) 0)).below (R.length - 1 - k) (.int .u8 (R.getD k 0).toNat))
            have HST := Lib.hid hst
            have HBL := Lib.hid hbl
            clear hst hbl
            go_wp2_with fail
            go_roundw
            case rel => exact ⟨k + 1, rfl, by omega, HST.out, HBL.out⟩
            case measure => simp [intOf]; omega
          · obtain rfl : k = R.length / 2 := by omega
            have ho := HO.out
            rw [swapped_half, hRR.out] at ho
            have hconv := conv_own ho
            clear HO ho
            go_wp2_with fail
            go_ret
            exact ⟨rfl, HB.out⟩
      · have hsz := HB.out.size
        have hlen : l.length ≤ 18 := by
          have := HL.out
          have h2 := revD_length_le 18 d hd
          rw [← this] at h2
          simp at h2
          omega
        have hrev : Hid ((l ++ [UInt8.ofNat (48 + n % 10)]) ++ revD (n / 10) = revD d) := by
          have := HL.out
          rw [revD_pos h0] at this
          show _ = _
          rw [← this]
          simp
        go_wp2_with (at_builtin; refine put_b (.tmp 30) (.tmp 34) w.heap.size _ l [UInt8.ofNat (48 + n % 10)] _ _ rfl rfl rfl HO.out (by rw [dig_cell _ (by omega)]; simp) rfl (by simp; omega) hsz ?_; intro v6 w6 ho6 hk6)
        go_roundw
        case rel => exact ⟨n / 10, _, by go_num, by omega, ho6, hrev.out, HB.out.trans hk6.below⟩
        case measure => simp [intOf]; omega
end Go.Proofs.YtehakhplglhkdaaGreatDoor
