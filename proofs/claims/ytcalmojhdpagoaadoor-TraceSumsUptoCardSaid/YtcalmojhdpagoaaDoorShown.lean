/- The walk of guiseref17.shown. -/
import Derived.Test.YtcalmojhdpagoaaDoorDigits
import Derived.Lib.ConvBytes
namespace Go.Proofs.YtcalmojhdpagoaaDoor
set_option linter.unusedVariables false
open Go.RowKit

/-- The bytes l lie at the head of block g, behind whose cells the run-time's mark stands. -/
def Fz (w : World) (g : Nat) (l : List UInt8) : Prop := ∃ (cs : List Value) (N : Nat), w.heap[g]? = some (.cells cs.toArray 5 (N, N + 1)) ∧ cs.length = N ∧ cs.take l.length = Lib.byteCells l ∧ l.length ≤ N

section
variable {w : World} {g : Nat} {l : List UInt8}
theorem Fz.lt (h : Fz w g l) : g < w.heap.size := by
  obtain ⟨cs, N, h, _⟩ := h
  exact (Array.getElem?_eq_some_iff.1 h).1
theorem Fz.cell (h : Fz w g l) {j : Nat} {u : UInt8} (hj : l[j]? = some u) : w.cell? ⟨g, j, none⟩ = some (.int .u8 u.toNat) := by
  obtain ⟨cs, N, h, hl, ht, hn⟩ := h
  have hjl := (List.getElem?_eq_some_iff.1 hj).1
  have h1 : (cs.take l.length)[j]? = some (.int .u8 u.toNat) := by rw [ht]; simp [Lib.byteCells, hj]
  rw [List.getElem?_take, if_pos hjl] at h1
  simp [World.cell?, h, h1]
theorem Fz.free (h : Fz w g l) {j : Nat} (hj : j < l.length) : w.frozen? ⟨g, j, none⟩ = false := by
  obtain ⟨cs, N, h, hl, ht, hn⟩ := h
  simp [World.frozen?, h]
  omega
theorem Fz.set (h : Fz w g l) (j : Nat) (u : UInt8) : Fz (w.setCell ⟨g, j, none⟩ (.int .u8 u.toNat)) g (l.set j u) := by
  obtain ⟨cs, N, h, hl, ht, hn⟩ := h
  refine ⟨cs.set j (.int .u8 u.toNat), N, ?_, by simp [hl], ?_, by simpa using hn⟩
  · simp [World.setCell, Array.getElem?_modify, h]
  · rw [List.length_set, List.take_set, ht]
    simp [Lib.byteCells, List.map_set]
theorem Fz.conv (h : Fz w g l) (c : Nat) : (convert 44 9 (.slice (some ⟨g, 0, none⟩) l.length c)).run Tryd.prog w = .ok (.string ⟨l.toArray⟩) w :=
  run_convert_bytes_back w 44 9 5 _ c l Tryd.underlying44 Tryd.underlying5 Tryd.underlying9 (fun j hj => by
    rw [Addr.add_lit, Nat.zero_add]
    exact h.cell (by simp [hj]))
end

/-- l with its first k bytes shown. -/
def shownK (l : List UInt8) (k : Nat) : List UInt8 := (l.take k).map shownB ++ l.drop k
theorem shownK_length (l : List UInt8) (k : Nat) : (shownK l k).length = l.length := by simp [shownK]; omega
theorem shownK_at (l : List UInt8) (k : Nat) (hk : k < l.length) : (shownK l k)[k]? = some l[k] := by
  have : ((l.take k).map shownB).length = k := by simp; omega
  rw [shownK, List.getElem?_append_right (by omega), this, List.getElem?_drop]
  simp [hk]
theorem shownK_succ (l : List UInt8) (k : Nat) (hk : k < l.length) : shownK l (k + 1) = (shownK l k).set k (shownB l[k]) := by
  have h1 : ((l.take k).map shownB).length = k := by simp; omega
  unfold shownK
  rw [List.take_succ_eq_append_getElem hk, List.map_append, List.set_append_right _ _ (by omega), h1, Nat.sub_self, List.drop_eq_getElem_cons hk, List.set_cons_zero]
  simp
theorem shownK_same (l : List UInt8) (k : Nat) (hk : k < l.length) (h : shownB l[k] = l[k]) : shownK l (k + 1) = shownK l k := by
  rw [shownK_succ l k hk, h]
  apply List.ext_getElem?
  intro j
  rw [List.getElem?_set]
  by_cases hj : k = j
  · subst hj
    rw [if_pos rfl, if_pos (by rw [shownK_length]; exact hk), shownK_at l k hk]
  · rw [if_neg hj]

theorem fz_made (w : World) (t : ByteArray) (l : List UInt8) (ht : t.data.toList = l) : Fz (Lib.bytesWorld w 5 t) w.heap.size l := by
  subst ht
  have hn := Lib.bytesWorld_at_new w 5 t
  refine ⟨(Lib.bytesCells w 5 t).toList, (Lib.bytesCells w 5 t).size, by simpa using hn, by simp, ?_, ?_⟩
  · simp [Lib.bytesCells, Lib.byteCells]
  · simp [Lib.bytesCells]
theorem below_bytes (w : World) (t : ByteArray) : Below w.heap.size w (Lib.bytesWorld w 5 t) :=
  ⟨rfl, rfl, rfl, by rw [Lib.bytesWorld_size]; omega, fun k hk => Lib.bytesWorld_at_old w 5 t k hk⟩

set_option maxHeartbeats 1000000 in
theorem shown_any (w : World) (s : ByteArray) : Calls Tryd.prog 20 #[.string s] w fun en w' => en = .returned (.string ⟨(shown s).toArray⟩) ∧ Below w.heap.size w w' := by
  have hcv := fun (w : World) (s : ByteArray) => Lib.run_convert_string_bytes (P := Tryd.prog) w 9 44 5 s Tryd.underlying9 Tryd.underlying44 Tryd.underlying5
  obtain ⟨L, hL⟩ : ∃ L, L = s.data.toList.take 100 := ⟨_, rfl⟩
  have hLl : min s.size 100 = L.length := by
    rw [hL, List.length_take, Array.length_toList]
    show min s.data.size 100 = _
    omega
  have hL100 : L.length ≤ 100 := by omega
  have hmin : min (s.size : Int) 100 = (L.length : Int) := by omega
  have hmin2 : min L.length s.size = L.length := by omega
  have hex : (s.extract 0 L.length).data.toList = L := by
    rw [ByteArray.data_extract, Array.toList_extract, List.extract_eq_take_drop]
    simp only [Nat.sub_zero, List.drop_zero]
    conv => rhs; rw [hL]
    rw [← hLl]
    rcases Nat.le_total s.size 100 with h | h
    · rw [Nat.min_eq_left h, List.take_of_length_le (by rw [Array.length_toList]; exact Nat.le_refl _), List.take_of_length_le (by rw [Array.length_toList]; exact h)]
    · rw [Nat.min_eq_right h]
  have H0 : Hid (Fz (Lib.bytesWorld w 5 (s.extract 0 L.length)) w.heap.size L) := fz_made w _ L hex
  have HB0 : Hid (Below w.heap.size w (Lib.bytesWorld w 5 (s.extract 0 L.length))) := below_bytes w _
  have HS : Hid (shownK L L.length = shown s) := by
    show shownK L L.length = _
    unfold shownK
    rw [List.take_length, List.drop_length, List.append_nil, hL]
    rfl
  clear hex hL hLl
  go_enter Tryd.func20, Tryd.ntmps20
  go_wp2_with fail
  generalize Lib.bytesWorld w 5 (s.extract 0 L.length) = w1 at H0 HB0 ⊢
  generalize grownCap w L.length 0 5 = cp
  clear hcv hmin hmin2
  go_loopw [4] (fun v wr => ∃ k : Nat, v = .int .i64 k ∧ k ≤ L.length ∧ Hid (Fz wr w.heap.size (shownK L k)) ∧ Hid (Below w.heap.size w wr)) (fun v _ => L.length - (intOf v).toNat)
  case atStart => exact ⟨0, rfl, Nat.zero_le _, H0, HB0⟩
  case round =>
    rename World => w2
    clear H0 HB0
    obtain ⟨k, rfl, hk, HF, HB⟩ := hrel
    by_cases hlt : k < L.length
    · have f1 := HF.out.cell (shownK_at L k hlt)
      have g1 := HF.out.free (j := k) (by rw [shownK_length]; exact hlt)
      by_cases hlow : L[k] < 32
      · have hb : decide ((L[k].toNat : Int) < 32) = true := by
          have : L[k].toNat < 32 := UInt8.lt_iff_toNat_lt.1 hlow
          exact decide_eq_true (by omega)
        have hset := HF.out.set k 63
        have hs2 : shownB L[k] = 63 := by simp [shownB, hlow]
        rw [← hs2, ← shownK_succ L k hlt, hs2] at hset
        have HSET : Hid (Fz (w2.setCell ⟨w.heap.size, k, none⟩ (.int .u8 63)) w.heap.size (shownK L (k + 1))) := hset
        clear hset hs2 hlow
        go_wp2_with fail
        go_roundw
        case rel => exact ⟨k + 1, by go_num, by omega, HSET, HB.out.setCell (Nat.le_refl _) _⟩
        case measure => simp [intOf]; omega
      · have hb : decide ((L[k].toNat : Int) < 32) = false := by
          have : ¬ L[k].toNat < 32 := fun h => hlow (UInt8.lt_iff_toNat_lt.2 h)
          exact decide_eq_false (by omega)
        have HSM : Hid (shownK L (k + 1) = shownK L k) := shownK_same L k hlt (by simp [shownB, hlow])
        clear hlow
        go_wp2_with fail
        go_roundw
        case rel => exact ⟨k + 1, by go_num, by omega, by rw [HSM.out]; exact HF.out, HB.out⟩
        case measure => simp [intOf]; omega
    · obtain rfl : k = L.length := by omega
      have hf := HF.out
      rw [HS.out] at hf
      have hsl : (shown s).length = L.length := by rw [← HS.out, shownK_length]
      have hconv := hf.conv cp
      rw [hsl] at hconv
      clear hf HF
      go_wp2_with fail
      go_ret
      exact ⟨rfl, HB.out⟩
end Go.Proofs.YtcalmojhdpagoaaDoor
