/- Texts of this proof, put together: HeapD, HeapE, Stack, StackB. -/
import Derived.Test.YtmecmlpoallpcaaGreatDoorM12
set_option linter.unusedSimpArgs false
/- container/heap at code.row: down, Push, Pop; code.push, code.pop. (Printed by heapd.py.) -/
namespace Go.Proofs.YtmecmlpoallpcaaGreatDoor
set_option linter.unusedVariables false
open Go.RowKit Go.Proofs.PeepPlain

section
variable {Bo R g c N : Nat} {m : List Int} {w w2 : World}
theorem less_t (H : Held Bo w R 152 (.slice (some ⟨g, 0, none⟩) N c) m) (hn : m.length = N) (hl : N ≤ 1000000) (i j : Nat) (hi : i < N) (hj : j < N) (hlt : m.getD i 0 < m.getD j 0) (x y : Int) (hx : x = (i : Int)) (hy : y = (j : Int)) :
    Calls Tryz.prog 252 #[.slice (some ⟨g, 0, none⟩) N c, .int .i64 x, .int .i64 y] w fun e w' => e = .returned (.bool true) ∧ Held Bo w' R 152 (.slice (some ⟨g, 0, none⟩) N c) m ∧ Only [] w w' := by
  subst hx hy
  refine (row_less Bo m g c N i j w H.own hn.symm (by omega) (by omega) (by omega)).mono ?_
  rintro e w' ⟨rfl, q, rfl⟩
  rw [decide_eq_true hlt]
  exact ⟨rfl, H.drewN q, (Only.refl _ _).drewN q⟩
theorem less_f (H : Held Bo w R 152 (.slice (some ⟨g, 0, none⟩) N c) m) (hn : m.length = N) (hl : N ≤ 1000000) (i j : Nat) (hi : i < N) (hj : j < N) (hlt : m.getD j 0 ≤ m.getD i 0) (x y : Int) (hx : x = (i : Int)) (hy : y = (j : Int)) :
    Calls Tryz.prog 252 #[.slice (some ⟨g, 0, none⟩) N c, .int .i64 x, .int .i64 y] w fun e w' => e = .returned (.bool false) ∧ Held Bo w' R 152 (.slice (some ⟨g, 0, none⟩) N c) m ∧ Only [] w w' := by
  subst hx hy
  refine (row_less Bo m g c N i j w H.own hn.symm (by omega) (by omega) (by omega)).mono ?_
  rintro e w' ⟨rfl, q, rfl⟩
  rw [decide_eq_false (by omega)]
  exact ⟨rfl, H.drewN q, (Only.refl _ _).drewN q⟩
theorem swap_h (H : Held Bo w R 152 (.slice (some ⟨g, 0, none⟩) N c) m) (hn : m.length = N) (hl : N ≤ 1000000) (i j : Nat) (hi : i < N) (hj : j < N) (x y : Int) (hx : x = (i : Int)) (hy : y = (j : Int)) :
    Calls Tryz.prog 253 #[.slice (some ⟨g, 0, none⟩) N c, .int .i64 x, .int .i64 y] w fun e w' => e = .returned (.tuple #[]) ∧ Held Bo w' R 152 (.slice (some ⟨g, 0, none⟩) N c) (swapL m i j) ∧ Only [g] w w' := by
  subst hx hy
  refine (row_swap Bo m g c N i j w H.own hn.symm (by omega) (by omega) (by omega)).mono ?_
  rintro e w' ⟨rfl, ho, hy⟩
  exact ⟨rfl, ⟨hy.row H.row (by simpa using fun e => H.ne g rfl e.symm), ho, H.ne⟩, hy⟩
theorem Held.cellR {t : TypeId} {v : Value} {l : List Int} (H : Held Bo w R t v l) : w.cell? ⟨R, 0, none⟩ = some v := H.row.cell 0
theorem Went.only_ {v : Value} {w3 : World} {T : List Nat} (h : Went R v w v w2) (k : Only T w2 w3) (hT : ∀ x ∈ T, x ∈ blk v) : Went R v w v w3 :=
  ⟨h.only.trans k (fun x hx => .inl (by simp [hT x hx])), h.new⟩
theorem blk_some {n : Nat} : ∀ x ∈ [g], x ∈ blk (.slice (some ⟨g, 0, none⟩) n c) := by simp [blk, Value.ownBlock]
theorem none_in {v : Value} : ∀ x ∈ ([] : List Nat), x ∈ blk v := by simp
end

set_option maxRecDepth 20000 in
set_option maxHeartbeats 8000000 in
theorem down_walk (Bo R : Nat) (v : Value) (l : List Int) (n : Nat) (w : World) (h : Held Bo w R 152 v l) (hn : n < l.length) (hl : l.length ≤ 1000000) :
    Calls Tryz.prog 142 #[.iface 154 (.pointer (some ⟨R, 0, none⟩)), .int .i64 0, .int .i64 n] w fun e w' => (∃ b, e = .returned (.bool b)) ∧ Held Bo w' R 152 v (downL l 0 n) ∧ Went R v w v w' := by
  have HH := Lib.hid h
  obtain ⟨A, c, rfl⟩ := h.own.shape
  obtain ⟨g, rfl, hgn, hgc, hgm⟩ := h.own.addr (by omega)
  obtain ⟨N, hN⟩ : ∃ N, N = l.length := ⟨_, rfl⟩
  rw [← hN] at hn hl hgc HH ⊢
  have HL : Hid (l.length = N) := Lib.hid hN.symm
  clear h hgn hN
  go_enter Tryz.func142, Tryz.ntmps142
  go_wp2_with fail
  go_loopw [7, 8, 9, 10] (fun iv z1 z2 z3 wr => ∃ (i' : Nat) (l' : List Int), iv = .int .i64 i' ∧ i' ≤ n ∧ Hid (l'.length = N) ∧ Hid (Held Bo wr R 152 (.slice (some ⟨g, 0, none⟩) N c) l') ∧ Hid (downL l' i' n = downL l 0 n) ∧ Hid (Went R (.slice (some ⟨g, 0, none⟩) N c) w (.slice (some ⟨g, 0, none⟩) N c) wr)) (fun iv _ _ _ _ => n - (intOf iv).toNat)
  case atStart => exact ⟨0, l, rfl, by omega, HL, HH, rfl, Went.refl _ _ _⟩
  case round =>
    clear HH HL
    rename World => w2
    obtain ⟨k, m, rfl, hk, HL, HM, HU, HW⟩ := hrel
    by_cases h1 : 2 * k + 1 < n
    · have hme := meth_less R _ w2 HM.out.cellR
      have b1 : (0 : Int) ≤ 2 * (k : Int) + 1 ∧ 2 * (k : Int) + 1 < (n : Int) := by omega
      have b2 : ¬ (n : Int) ≤ 2 * (k : Int) + 1 := by omega
      have hDU := HU.out
      rw [downL, dif_pos h1] at hDU
      have hLB := leastBelow_lt (l := m) h1
      obtain ⟨J, hJ⟩ : ∃ J, J = leastBelow m k n := ⟨_, rfl⟩
      rw [← hJ] at hDU hLB
      clear HU
      by_cases h2 : 2 * k + 1 + 1 < n
      · have b3 : 2 * (k : Int) + 1 + 1 < (n : Int) := by omega
        by_cases h3 : m.getD (2 * k + 1 + 1) 0 < m.getD (2 * k + 1) 0
        · obtain rfl : J = 2 * k + 1 + 1 := by rw [hJ]; unfold leastBelow; rw [if_pos ⟨h2, h3⟩]
          by_cases h4 : m.getD (2 * k + 1 + 1) 0 < m.getD k 0
          · rw [if_pos h4] at hDU
            replace hDU := Lib.hid hDU
            have H4 := Lib.hid h4
            have HH3 := Lib.hid h3
            clear hJ h4 h3
            go_wp2_with (first
          | (go_at_call 252; refine (less_t HM.out HL.out (by omega) (2 * k + 1 + 1) (2 * k + 1) (by omega) (by omega) HH3.out _ _ (by omega) (by omega)).mono ?_; rintro en w3 ⟨rfl, hh3, hy3⟩
             have H3 := Lib.hid hh3
             have W3 := Lib.hid (HW.out.only_ hy3 none_in)
             have hme3 := meth_less R _ w3 hh3.cellR
             clear hh3 hy3)
          | (go_at_call 252; refine (less_t H3.out HL.out (by omega) (2 * k + 1 + 1) k (by omega) (by omega) H4.out _ _ (by omega) (by omega)).mono ?_; rintro en w5 ⟨rfl, hh5, hy5⟩
             have H5 := Lib.hid hh5
             have W5 := Lib.hid (W3.out.only_ hy5 none_in)
             have hme5 := meth_swap R _ w5 hh5.cellR
             clear hh5 hy5)
          | (go_at_call 253; refine (swap_h H5.out HL.out (by omega) k (2 * k + 1 + 1) (by omega) (by omega) _ _ (by omega) (by omega)).mono ?_; rintro en w6 ⟨rfl, hh6, hy6⟩))
            go_roundw
            case rel => exact ⟨2 * k + 1 + 1, swapL m k (2 * k + 1 + 1), by go_num, by omega, by rw [swap_length]; exact HL, hh6, hDU, W5.out.only_ hy6 blk_some⟩
            case measure => simp [intOf]; omega
          · rw [if_neg h4] at hDU
            replace hDU := Lib.hid hDU
            have H4 := Lib.hid (Int.not_lt.1 h4)
            have HH3 := Lib.hid h3
            clear hJ h4 h3
            go_wp2_with (first
          | (go_at_call 252; refine (less_t HM.out HL.out (by omega) (2 * k + 1 + 1) (2 * k + 1) (by omega) (by omega) HH3.out _ _ (by omega) (by omega)).mono ?_; rintro en w3 ⟨rfl, hh3, hy3⟩
             have H3 := Lib.hid hh3
             have W3 := Lib.hid (HW.out.only_ hy3 none_in)
             have hme3 := meth_less R _ w3 hh3.cellR
             clear hh3 hy3)
          | (go_at_call 252; refine (less_f H3.out HL.out (by omega) (2 * k + 1 + 1) k (by omega) (by omega) H4.out _ _ (by omega) (by omega)).mono ?_; rintro en w5 ⟨rfl, hh5, hy5⟩))
            go_ret
            exact ⟨⟨_, rfl⟩, by rw [← hDU.out]; exact hh5, W3.out.only_ hy5 none_in⟩
        · obtain rfl : J = 2 * k + 1 := by rw [hJ]; unfold leastBelow; rw [if_neg (fun h => h3 h.2)]
          by_cases h4 : m.getD (2 * k + 1) 0 < m.getD k 0
          · rw [if_pos h4] at hDU
            replace hDU := Lib.hid hDU
            have H4 := Lib.hid h4
            have HH3 := Lib.hid (Int.not_lt.1 h3)
            clear hJ h4 h3
            go_wp2_with (first
          | (go_at_call 252; refine (less_f HM.out HL.out (by omega) (2 * k + 1 + 1) (2 * k + 1) (by omega) (by omega) HH3.out _ _ (by omega) (by omega)).mono ?_; rintro en w3 ⟨rfl, hh3, hy3⟩
             have H3 := Lib.hid hh3
             have W3 := Lib.hid (HW.out.only_ hy3 none_in)
             have hme3 := meth_less R _ w3 hh3.cellR
             clear hh3 hy3)
          | (go_at_call 252; refine (less_t H3.out HL.out (by omega) (2 * k + 1) k (by omega) (by omega) H4.out _ _ (by omega) (by omega)).mono ?_; rintro en w5 ⟨rfl, hh5, hy5⟩
             have H5 := Lib.hid hh5
             have W5 := Lib.hid (W3.out.only_ hy5 none_in)
             have hme5 := meth_swap R _ w5 hh5.cellR
             clear hh5 hy5)
          | (go_at_call 253; refine (swap_h H5.out HL.out (by omega) k (2 * k + 1) (by omega) (by omega) _ _ (by omega) (by omega)).mono ?_; rintro en w6 ⟨rfl, hh6, hy6⟩))
            go_roundw
            case rel => exact ⟨2 * k + 1, swapL m k (2 * k + 1), by go_num, by omega, by rw [swap_length]; exact HL, hh6, hDU, W5.out.only_ hy6 blk_some⟩
            case measure => simp [intOf]; omega
          · rw [if_neg h4] at hDU
            replace hDU := Lib.hid hDU
            have H4 := Lib.hid (Int.not_lt.1 h4)
            have HH3 := Lib.hid (Int.not_lt.1 h3)
            clear hJ h4 h3
            go_wp2_with (first
          | (go_at_call 252; refine (less_f HM.out HL.out (by omega) (2 * k + 1 + 1) (2 * k + 1) (by omega) (by omega) HH3.out _ _ (by omega) (by omega)).mono ?_; rintro en w3 ⟨rfl, hh3, hy3⟩
             have H3 := Lib.hid hh3
             have W3 := Lib.hid (HW.out.only_ hy3 none_in)
             have hme3 := meth_less R _ w3 hh3.cellR
             clear hh3 hy3)
          | (go_at_call 252; refine (less_f H3.out HL.out (by omega) (2 * k + 1) k (by omega) (by omega) H4.out _ _ (by omega) (by omega)).mono ?_; rintro en w5 ⟨rfl, hh5, hy5⟩))
            go_ret
            exact ⟨⟨_, rfl⟩, by rw [← hDU.out]; exact hh5, W3.out.only_ hy5 none_in⟩
      · have b3 : ¬ 2 * (k : Int) + 1 + 1 < (n : Int) := by omega
        have h3 : True := trivial
        · obtain rfl : J = 2 * k + 1 := by rw [hJ]; unfold leastBelow; rw [if_neg (fun h => h2 h.1)]
          by_cases h4 : m.getD (2 * k + 1) 0 < m.getD k 0
          · rw [if_pos h4] at hDU
            replace hDU := Lib.hid hDU
            have H4 := Lib.hid h4
            have HH3 := Lib.hid h3
            clear hJ h4 h3
            go_wp2_with (first
          | (go_at_call 252; refine (less_t HM.out HL.out (by omega) (2 * k + 1) k (by omega) (by omega) H4.out _ _ (by omega) (by omega)).mono ?_; rintro en w5 ⟨rfl, hh5, hy5⟩
             have H5 := Lib.hid hh5
             have W5 := Lib.hid (HW.out.only_ hy5 none_in)
             have hme5 := meth_swap R _ w5 hh5.cellR
             clear hh5 hy5)
          | (go_at_call 253; refine (swap_h H5.out HL.out (by omega) k (2 * k + 1) (by omega) (by omega) _ _ (by omega) (by omega)).mono ?_; rintro en w6 ⟨rfl, hh6, hy6⟩))
            go_roundw
            case rel => exact ⟨2 * k + 1, swapL m k (2 * k + 1), by go_num, by omega, by rw [swap_length]; exact HL, hh6, hDU, W5.out.only_ hy6 blk_some⟩
            case measure => simp [intOf]; omega
          · rw [if_neg h4] at hDU
            replace hDU := Lib.hid hDU
            have H4 := Lib.hid (Int.not_lt.1 h4)
            have HH3 := Lib.hid h3
            clear hJ h4 h3
            go_wp2_with (first
          | (go_at_call 252; refine (less_f HM.out HL.out (by omega) (2 * k + 1) k (by omega) (by omega) H4.out _ _ (by omega) (by omega)).mono ?_; rintro en w5 ⟨rfl, hh5, hy5⟩))
            go_ret
            exact ⟨⟨_, rfl⟩, by rw [← hDU.out]; exact hh5, HW.out.only_ hy5 none_in⟩
    · have b2 : (n : Int) ≤ 2 * (k : Int) + 1 := by omega
      have hDU := HU.out
      rw [downL, dif_neg h1] at hDU
      replace hDU := Lib.hid hDU
      clear HU h1
      go_wp2_with fail
      go_ret
      exact ⟨⟨_, rfl⟩, by rw [← hDU.out]; exact HM.out, HW.out⟩
end Go.Proofs.YtmecmlpoallpcaaGreatDoor

/- container/heap's Push and Pop at code.row; code.push, code.pop. -/
namespace Go.Proofs.YtmecmlpoallpcaaGreatDoor
set_option linter.unusedVariables false
open Go.RowKit Go.Proofs.PeepPlain

theorem Held.shape {Bo R : Nat} {t : TypeId} {v : Value} {l : List Int} {w : World} (h : Held Bo w R t v l) : ∃ A c, v = .slice A l.length c := h.own.shape
set_option maxHeartbeats 4000000 in
theorem heap_push (Bo R : Nat) (v : Value) (l : List Int) (x : Int) (w : World) (h : Held Bo w R 152 v l) (hB : Bo ≤ w.heap.size) (hl : l.length ≤ 900000) :
    Calls Tryz.prog 144 #[.iface 154 (.pointer (some ⟨R, 0, none⟩)), .iface 3 (.int .i64 x)] w fun e w' => e = .returned (.tuple #[]) ∧ ∃ v', Held Bo w' R 152 v' (pushH l x) ∧ Went R v w v' w' := by
  have HH := Lib.hid h
  have hm := meth_push R w
  clear h
  go_enter Tryz.func144, Tryz.ntmps144
  go_wp2_with (first
    | (go_at_call 255; refine (row_push Bo R v l x _ HH.out hB (by omega)).mono ?_; rintro en w2 ⟨rfl, v2, hh2, hw2⟩
       have H2 := Lib.hid hh2
       have W2 := Lib.hid hw2
       obtain ⟨A2, c2, rfl⟩ := hh2.shape
       have hm2 := meth_len R _ w2 hh2.cellR
       have e2 : (l ++ [x]).length = l.length + 1 := by simp
       rw [e2] at hm2
       clear hh2 hw2 hm)
    | (go_at_call 251; refine (row_len _ _ _ _).mono ?_; rintro en w3 ⟨rfl, rfl⟩)
    | (go_at_call 178; refine (up_walk Bo R _ (l ++ [x]) l.length _ H2.out (by simp) (by simp; omega)).mono ?_; rintro en w4 ⟨rfl, hh4, hw4⟩))
  go_end0
  exact ⟨rfl, _, hh4, W2.out.trans hw4⟩
set_option maxHeartbeats 4000000 in
theorem heap_pop (Bo R : Nat) (v : Value) (l : List Int) (w : World) (h : Held Bo w R 152 v l) (h0 : 0 < l.length) (hl : l.length ≤ 900000) :
    Calls Tryz.prog 110 #[.iface 154 (.pointer (some ⟨R, 0, none⟩))] w fun e w' => e = .returned (.iface 3 (.int .i64 (popH l).1)) ∧ ∃ v', Held Bo w' R 152 v' (popH l).2 ∧ Went R v w v' w' := by
  have HH := Lib.hid h
  obtain ⟨A, c, rfl⟩ := h.own.shape
  obtain ⟨g, rfl, hgn, hgc, hgm⟩ := h.own.addr h0
  have hm := meth_len R _ w h.cellR
  have hm1 := meth_swap R _ w h.cellR
  obtain ⟨n, hn⟩ : ∃ n, l.length = n + 1 := ⟨l.length - 1, by omega⟩
  rw [hn] at hm hm1 hgc HH hl ⊢
  have HL := Lib.hid hn
  have HP := Lib.hid (popH_split h0)
  have HD : Hid (downL (swapL l 0 n) 0 n = (popH l).2 ++ [(popH l).1]) := Lib.hid (by rw [← popH_split h0]; unfold poppedH; rw [hn]; rfl)
  clear h hgn hn h0
  go_enter Tryz.func110, Tryz.ntmps110
  go_wp2_with (first
    | (go_at_call 251; refine (row_len _ _ _ _).mono ?_; rintro en w3 ⟨rfl, rfl⟩)
    | (go_at_call 253; refine (swap_h HH.out HL.out (by omega) 0 n (by omega) (by omega) _ _ (by omega) (by omega)).mono ?_; rintro en w6 ⟨rfl, hh6, hy6⟩
       have H6 := Lib.hid hh6
       have W6 := Lib.hid ((Went.refl R (.slice (some ⟨g, 0, none⟩) (n + 1) c) _).only_ hy6 blk_some)
       clear hh6 hy6 hm hm1)
    | (go_at_call 142; refine (down_walk Bo R _ (swapL l 0 n) n _ H6.out (by rw [swap_length, HL.out]; omega) (by rw [swap_length, HL.out]; omega)).mono ?_; rintro en w7 ⟨⟨b, rfl⟩, hh7, hw7⟩
       rw [HD.out] at hh7
       have H7 := Lib.hid hh7
       have W7 := Lib.hid (W6.out.trans hw7)
       have hm7 := meth_pop R w7
       clear hh7 hw7)
    | (go_at_call 254; refine (row_pop Bo R _ (popH l).2 (popH l).1 _ H7.out (by rw [popH_length, HL.out]; omega)).mono ?_; rintro en w8 ⟨rfl, v8, hh8, hw8⟩))
  go_ret
  exact ⟨rfl, v8, hh8, W7.out.trans hw8⟩

/-- A row of a call's own in a variable V: code.push's own variable for it. -/
theorem Held.into {Bo V : Nat} {v : Value} {l : List Int} {w : World} (h : Held Bo w V 44 v l) :
    Held Bo (w.alloc (.cells #[v] 152)) w.heap.size 152 v l ∧ Only (V :: blk v) w (w.alloc (.cells #[v] 152)) ∧ Row (w.alloc (.cells #[v] 152)) V 44 [v] ∧ w.heap.size < (w.alloc (.cells #[v] 152)).heap.size :=
  ⟨⟨Row.made w 152 [v], h.own.alloc _, fun g hg => by have := (h.own.lt hg).2; omega⟩, (Only.refl _ _).alloc _, h.row.alloc _, by simp⟩
/-- The variable V filled again. -/
theorem Held.back {Bo V R : Nat} {v v2 : Value} {l l2 : List Int} {w w1 w2 : World} (h : Held Bo w V 44 v l) (h1 : Only (V :: blk v) w w1) (hr : Row w1 V 44 [v]) (hR : w.heap.size ≤ R) (h2 : Held Bo w2 R 152 v2 l2) (hw : Went R v w1 v2 w2) :
    w2.cell? ⟨V, 0, none⟩ = some v ∧ w2.frozen? ⟨V, 0, none⟩ = false ∧ Held Bo (w2.setCell ⟨V, 0, none⟩ v2) V 44 v2 l2 ∧ Went V v w v2 (w2.setCell ⟨V, 0, none⟩ v2) := by
  have hV := h.row.lt
  have hr2 : Row w2 V 44 [v] := hw.only.row hr (by
    intro hm
    rcases List.mem_cons.1 hm with e | e
    · omega
    · exact h.ne V (blk_iff.1 e) rfl)
  have hne : ∀ g, v2.ownBlock = some g → g ≠ V := fun g hg => by
    rcases hw.new g hg with e | e
    · exact h.ne g (blk_iff.1 e)
    · have := h1.size; omega
  have ho : Only (V :: blk v) w w2 := h1.trans hw.only (fun x hx => by
    rcases List.mem_cons.1 hx with rfl | hx
    · exact .inr hR
    · exact .inl (by simp [hx]))
  refine ⟨hr2.cell 0, hr2.free 0, ⟨hr2.set 0 v2, own_same h2.own fun g hg => Below.heap_setCell _ _ _ _ (hne g hg), hne⟩, ⟨ho.setCell (p := ⟨V, 0, none⟩) (.inl (by simp)) _, fun g hg => ?_⟩⟩
  rcases hw.new g hg with e | e
  · exact .inl e
  · exact .inr (Nat.le_trans h1.size e)
set_option maxHeartbeats 4000000 in
theorem push_walk (Bo V : Nat) (v : Value) (l : List Int) (x : Int) (w : World) (h : Held Bo w V 44 v l) (hB : Bo ≤ w.heap.size) (hl : l.length ≤ 900000) :
    Calls Tryz.prog 114 #[.pointer (some ⟨V, 0, none⟩), .int .i64 x] w fun e w' => e = .returned (.tuple #[]) ∧ ∃ v', Held Bo w' V 44 v' (pushH l x) ∧ Went V v w v' w' := by
  have HH := Lib.hid h
  obtain ⟨H1, O1, R1, S1⟩ := h.into
  obtain ⟨A, c, rfl⟩ := h.own.shape
  have hc := h.cellR
  have hV := h.row.lt
  replace H1 := Lib.hid H1
  replace O1 := Lib.hid O1
  replace R1 := Lib.hid R1
  replace S1 := Lib.hid S1
  clear h
  go_enter Tryz.func114, Tryz.ntmps114
  go_wp2_with (first
    | (go_at_call 144; refine (heap_push Bo _ _ l x _ H1.out (by have := S1.out; omega) hl).mono ?_; rintro en w3 ⟨rfl, v3, hh3, hw3⟩
       obtain ⟨A3, c3, rfl⟩ := hh3.shape
       have hc3 := hh3.cellR
       obtain ⟨hc4, hf4, hh4, hw4⟩ := HH.out.back O1.out R1.out (Nat.le_refl _) hh3 hw3
       have H4 := Lib.hid hh4
       have W4 := Lib.hid hw4
       clear hh3 hw3 hh4 hw4))
  go_end0
  exact ⟨rfl, _, H4.out, W4.out⟩
set_option maxHeartbeats 4000000 in
theorem pop_walk (Bo V : Nat) (v : Value) (l : List Int) (w : World) (h : Held Bo w V 44 v l) (h0 : 0 < l.length) (hl : l.length ≤ 900000) :
    Calls Tryz.prog 74 #[.pointer (some ⟨V, 0, none⟩)] w fun e w' => e = .returned (.int .i64 (popH l).1) ∧ ∃ v', Held Bo w' V 44 v' (popH l).2 ∧ Went V v w v' w' := by
  have HH := Lib.hid h
  obtain ⟨H1, O1, R1, S1⟩ := h.into
  obtain ⟨A, c, rfl⟩ := h.own.shape
  have hc := h.cellR
  have hV := h.row.lt
  replace H1 := Lib.hid H1
  replace O1 := Lib.hid O1
  replace R1 := Lib.hid R1
  replace S1 := Lib.hid S1
  have H0 := Lib.hid h0
  have ha := assert_int (popH l).1
  clear h h0
  go_enter Tryz.func74, Tryz.ntmps74
  go_wp2_with (first
    | (go_at_call 110; refine (heap_pop Bo _ _ l _ H1.out H0.out hl).mono ?_; rintro en w3 ⟨rfl, v3, hh3, hw3⟩
       obtain ⟨A3, c3, rfl⟩ := hh3.shape
       have hc3 := hh3.cellR
       obtain ⟨hc4, hf4, hh4, hw4⟩ := HH.out.back O1.out R1.out (Nat.le_refl _) hh3 hw3
       have H4 := Lib.hid hh4
       have W4 := Lib.hid hw4
       clear hh3 hw3 hh4 hw4))
  go_ret
  exact ⟨rfl, _, H4.out, W4.out⟩
end Go.Proofs.YtmecmlpoallpcaaGreatDoor

/- code.stack: stacks of which there is one of each; less. -/
namespace Go.Proofs.YtmecmlpoallpcaaGreatDoor
set_option linter.unusedVariables false
open Go.RowKit Go.Proofs.PeepPlain

/-- Which stack lies in a block. -/
abbrev Rep := Nat → Option (List Int)
/-- One that points to a stack, or to none. -/
def OptPt (R : Rep) (o : Option Addr) (s : Option (List Int)) : Prop := match s with
  | none => o = none
  | some s => ∃ g, o = some ⟨g, 0, none⟩ ∧ R g = some s
/-- The one that lies above: it is there, or there is none such. -/
def OnOk (R : Rep) (o : Option Addr) (s : List Int) : Prop := (o = none ∧ ∀ h, R h ≠ some s) ∨ ∃ h, o = some ⟨h, 0, none⟩ ∧ R h = some s
def BelowOk (R : Rep) (o : Option Addr) (s : List Int) : Prop := match s with
  | [] => o = none
  | _ :: t => ∃ h, o = some ⟨h, 0, none⟩ ∧ R h = some t
def nodeCells (s : List Int) (bl o0 o1 o2 : Option Addr) : List Value := [.int .u8 (s.headD 0), .pointer bl, .int .i64 s.length, .pointer o0, .pointer o1, .pointer o2]
structure Node (w : World) (R : Rep) (g : Nat) (s : List Int) (bl o0 o1 o2 : Option Addr) : Prop where
  row : Row w g 106 (nodeCells s bl o0 o1 o2)
  below : BelowOk R bl s
  on0 : OnOk R o0 (118 :: s)
  on1 : OnOk R o1 (112 :: s)
  on2 : OnOk R o2 (116 :: s)
/-- The stacks that there are, each once. -/
structure Nodes (B : Nat) (w : World) (R : Rep) : Prop where
  low : ∀ g s, R g = some s → B ≤ g
  inj : ∀ g h s, R g = some s → R h = some s → g = h
  node : ∀ g s, R g = some s → ∃ bl o0 o1 o2, Node w R g s bl o0 o1 o2
theorem Nodes.lt {B : Nat} {w : World} {R : Rep} (H : Nodes B w R) {g : Nat} {s : List Int} (h : R g = some s) : g < w.heap.size := by
  obtain ⟨bl, o0, o1, o2, hn⟩ := H.node g s h
  exact hn.row.lt
/-- The stacks stay where they are written nowhere. -/
theorem Nodes.same {B : Nat} {w w' : World} {R : Rep} (H : Nodes B w R) (hk : ∀ g, R g ≠ none → w'.heap[g]? = w.heap[g]?) : Nodes B w' R where
  low := H.low
  inj := H.inj
  node := fun g s h => by
    obtain ⟨bl, o0, o1, o2, hn⟩ := H.node g s h
    exact ⟨bl, o0, o1, o2, ⟨(hk g (by rw [h]; simp)).trans hn.row, hn.below, hn.on0, hn.on1, hn.on2⟩⟩
theorem lessN_cons {c t : Int} {n : Nat} {s : List Int} (h : t = c ∨ (c = 63 ∧ (t = 118 ∨ t = 112))) : lessN c (n + 1) (t :: s) = lessN c n s := by simp only [lessN, if_pos h]
theorem lessN_off {c t : Int} {n : Nat} {s : List Int} (h : ¬ (t = c ∨ (c = 63 ∧ (t = 118 ∨ t = 112)))) : lessN c (n + 1) (t :: s) = none := by simp only [lessN, if_neg h]
set_option maxHeartbeats 4000000 in
theorem less_walk (B : Nat) (R : Rep) (g : Nat) (s : List Int) (c n : Int) (w : World) (H : Nodes B w R) (hg : R g = some s) (hc0 : c ≠ 0) (hn : n ≤ 1000000) :
    Calls Tryz.prog 112 #[.pointer (some ⟨g, 0, none⟩), .int .u8 c, .int .i64 n] w fun e w' => (∃ o, e = .returned (.pointer o) ∧ OptPt R o (lessN c n.toNat s)) ∧ w' = w := by
  have HH := Lib.hid H
  have HG := Lib.hid hg
  clear H hg
  go_enter Tryz.func112, Tryz.ntmps112
  go_wp2_with fail
  go_loop [0, 2] (fun gv nv => ∃ (g' : Nat) (s' : List Int) (n' : Int), gv = .pointer (some ⟨g', 0, none⟩) ∧ nv = .int .i64 n' ∧ n' ≤ 1000000 ∧ Hid (R g' = some s') ∧ Hid (lessN c n'.toNat s' = lessN c n.toNat s)) (fun _ nv => (intOf nv).toNat)
  case atStart => exact ⟨g, s, n, rfl, rfl, hn, HG, rfl⟩
  case round =>
    clear HG hn
    obtain ⟨g1, s1, n1, rfl, rfl, hn, HG, HL⟩ := hrel
    obtain ⟨bl, o0, o1, o2, hnode⟩ := HH.out.node g1 s1 HG.out
    have k0 : w.cell? ⟨g1, 0, none⟩ = some (.int .u8 (s1.headD 0)) := hnode.row.cell 0
    have k1 : w.cell? ⟨g1, 1, none⟩ = some (.pointer bl) := hnode.row.cell 1
    have HB := Lib.hid hnode.below
    clear hnode
    by_cases h0 : 0 < n1
    · obtain ⟨m, hm⟩ : ∃ m : Nat, n1 = ((m + 1 : Nat) : Int) := ⟨(n1 - 1).toNat, by omega⟩
      have HM := Lib.hid hm
      have hlt : decide (n1 > 0) = true := decide_eq_true h0
      cases s1 with
      | nil =>
        simp only [List.headD_nil] at k0
        have HE : Hid (lessN c n.toNat s = none) := Lib.hid (by rw [← HL.out, hm, Int.toNat_natCast]; rfl)
        have t1 : ((0 : Int) == c) = false := beq_eq_false_iff_ne.2 (fun h => hc0 h.symm)
        have t2 : ((0 : Int) != c) = true := bne_iff_ne.2 (fun h => hc0 h.symm)
        clear hm HL
        by_cases h63 : c = 63
        · have u1 : (c == (63 : Int)) = true := beq_iff_eq.2 h63
          have u2 : (c != (63 : Int)) = false := by simp [h63]
          clear h63
          go_wp2_with fail
          go_ret
          exact ⟨⟨none, rfl, by rw [HE.out]; rfl⟩, rfl⟩
        · have u1 : (c == (63 : Int)) = false := beq_eq_false_iff_ne.2 h63
          have u2 : (c != (63 : Int)) = true := bne_iff_ne.2 h63
          clear h63
          go_wp2_with fail
          go_ret
          exact ⟨⟨none, rfl, by rw [HE.out]; rfl⟩, rfl⟩
      | cons t s2 =>
        simp only [List.headD_cons] at k0
        obtain ⟨g2, rfl, hg2⟩ := HB.out
        have HG2 := Lib.hid hg2
        clear hg2 HB
        by_cases hgo : t = c ∨ (c = 63 ∧ (t = 118 ∨ t = 112))
        · have HE : Hid (lessN c m s2 = lessN c n.toNat s) := Lib.hid (by rw [← HL.out, hm, Int.toNat_natCast, lessN_cons hgo])
          have HX := Lib.hid (show lessN c (n1 - 1).toNat s2 = lessN c n.toNat s by rw [show (n1 - 1).toNat = m by omega]; exact HE.out)
          clear HL hm
          by_cases htc : t = c
          · have t1 : (t == c) = true := beq_iff_eq.2 htc
            have t2 : (t != c) = false := by simp [htc]
            clear hgo htc
            go_wp2_with fail
            go_round
            case rel => exact ⟨g2, s2, n1 - 1, rfl, rfl, by omega, HG2, HX⟩
            case measure => simp [intOf]; omega
          · have h63 : c = 63 := by rcases hgo with h | h; exact absurd h htc; exact h.1
            have ht : t = 118 ∨ t = 112 := by rcases hgo with h | h; exact absurd h htc; exact h.2
            have t1 : (t == c) = false := beq_eq_false_iff_ne.2 htc
            have t2 : (t != c) = true := bne_iff_ne.2 htc
            have u1 : (c == (63 : Int)) = true := beq_iff_eq.2 h63
            have u2 : (c != (63 : Int)) = false := by simp [h63]
            clear hgo htc h63
            rcases ht with rfl | rfl
            · go_wp2_with fail
              go_round
              case rel => exact ⟨g2, s2, n1 - 1, rfl, rfl, by omega, HG2, HX⟩
              case measure => simp [intOf]; omega
            · go_wp2_with fail
              go_round
              case rel => exact ⟨g2, s2, n1 - 1, rfl, rfl, by omega, HG2, HX⟩
              case measure => simp [intOf]; omega
        · have HE : Hid (lessN c n.toNat s = none) := Lib.hid (by rw [← HL.out, hm, Int.toNat_natCast, lessN_off hgo])
          have htc : t ≠ c := fun h => hgo (.inl h)
          have t1 : (t == c) = false := beq_eq_false_iff_ne.2 htc
          have t2 : (t != c) = true := bne_iff_ne.2 htc
          clear HL hm
          by_cases h63 : c = 63
          · have q1 : t ≠ 118 := fun h => hgo (.inr ⟨h63, .inl h⟩)
            have q2 : t ≠ 112 := fun h => hgo (.inr ⟨h63, .inr h⟩)
            have u1 : (c == (63 : Int)) = true := beq_iff_eq.2 h63
            have u2 : (c != (63 : Int)) = false := by simp [h63]
            have v1 : (t == (118 : Int)) = false := beq_eq_false_iff_ne.2 q1
            have v2 : (t != (118 : Int)) = true := bne_iff_ne.2 q1
            have v3 : (t == (112 : Int)) = false := beq_eq_false_iff_ne.2 q2
            have v4 : (t != (112 : Int)) = true := bne_iff_ne.2 q2
            clear hgo htc h63 q1 q2
            go_wp2_with fail
            go_ret
            exact ⟨⟨none, rfl, by rw [HE.out]; rfl⟩, rfl⟩
          · have u1 : (c == (63 : Int)) = false := beq_eq_false_iff_ne.2 h63
            have u2 : (c != (63 : Int)) = true := bne_iff_ne.2 h63
            clear hgo htc h63
            go_wp2_with fail
            go_ret
            exact ⟨⟨none, rfl, by rw [HE.out]; rfl⟩, rfl⟩
    · have HE : Hid (lessN c n.toNat s = some s1) := Lib.hid (by rw [← HL.out, show n1.toNat = 0 by omega, lessN_zero])
      have hlt : decide (n1 > 0) = false := decide_eq_false h0
      clear HL
      go_wp2_with fail
      go_ret
      exact ⟨⟨some ⟨g1, 0, none⟩, rfl, by rw [HE.out]; exact ⟨g1, rfl, HG.out⟩⟩, rfl⟩
end Go.Proofs.YtmecmlpoallpcaaGreatDoor

/- code.stack: a stack with one more: no walk. -/
namespace Go.Proofs.YtmecmlpoallpcaaGreatDoor
set_option linter.unusedVariables false
open Go.RowKit Go.Proofs.PeepPlain

/-- Stacks were made, and none else was touched. -/
structure Grew (R : Rep) (w : World) (R' : Rep) (w' : World) : Prop where
  os : w'.os = w.os
  tape : w'.tape = w.tape
  output : w'.output = w.output
  size : w.heap.size ≤ w'.heap.size
  block : ∀ k, k < w.heap.size → R k = none → w'.heap[k]? = w.heap[k]?
  keep : ∀ k s, R k = some s → R' k = some s
  new : ∀ k, k < w.heap.size → R k = none → R' k = none
theorem Grew.refl (R : Rep) (w : World) : Grew R w R w := ⟨rfl, rfl, rfl, Nat.le_refl _, fun _ _ _ => rfl, fun _ _ h => h, fun _ _ h => h⟩
theorem Grew.trans {R R1 R2 : Rep} {w w1 w2 : World} (h : Grew R w R1 w1) (k : Grew R1 w1 R2 w2) : Grew R w R2 w2 where
  os := k.os.trans h.os
  tape := k.tape.trans h.tape
  output := k.output.trans h.output
  size := Nat.le_trans h.size k.size
  block := fun i hi hr => (k.block i (Nat.lt_of_lt_of_le hi h.size) (h.new i hi hr)).trans (h.block i hi hr)
  keep := fun i s hs => k.keep i s (h.keep i s hs)
  new := fun i hi hr => k.new i (Nat.lt_of_lt_of_le hi h.size) (h.new i hi hr)
theorem Grew.below {R R' : Rep} {w w' : World} {B : Nat} (h : Grew R w R' w') (hB : B ≤ w.heap.size) (hl : ∀ g s, R g = some s → B ≤ g) : Below B w w' :=
  ⟨h.os, h.tape, h.output, h.size, fun k hk => h.block k (by omega) (by
    cases hr : R k with
    | none => rfl
    | some s => have := hl k s hr; omega)⟩
theorem Grew.row {R R' : Rep} {w w' : World} {g : Nat} {t : TypeId} {cs : List Value} (h : Grew R w R' w') (hr : Row w g t cs) (hg : R g = none) : Row w' g t cs := (h.block g hr.lt hg).trans hr
/-- Blocks that are no stacks were made or written. -/
theorem Grew.ofOnly {R : Rep} {S : List Nat} {w w' : World} (h : Only S w w') (hS : S = []) (hR : ∀ k, w.heap.size ≤ k → R k = none) : Grew R w R w' := by
  subst hS
  exact ⟨h.os, h.tape, h.output, h.size, fun k hk _ => h.block k hk (by simp), fun _ _ h => h, fun _ _ h => h⟩
def onOf (i : Nat) (o0 o1 o2 : Option Addr) : Option Addr := if i = 0 then o0 else if i = 1 then o1 else o2
def kindOf (i : Nat) : Int := if i = 0 then 118 else if i = 1 then 112 else 116
def withRep (R : Rep) (h : Nat) (s : List Int) : Rep := fun k => if k = h then some s else R k
theorem onOk_keep {R : Rep} {h : Nat} {s t : List Int} {o : Option Addr} (ho : OnOk R o t) (hn : R h = none) (hne : s ≠ t) : OnOk (withRep R h s) o t := by
  rcases ho with ⟨e, ha⟩ | ⟨k, e, hk⟩
  · refine .inl ⟨e, fun k => ?_⟩
    unfold withRep
    split
    · exact fun hs => hne (Option.some.inj hs)
    · exact ha k
  · refine .inr ⟨k, e, ?_⟩
    unfold withRep
    rw [if_neg (by rintro rfl; rw [hn] at hk; cases hk)]
    exact hk
theorem below_keep {R : Rep} {h : Nat} {s t : List Int} {o : Option Addr} (ho : BelowOk R o t) (hn : R h = none) : BelowOk (withRep R h s) o t := by
  cases t with
  | nil => exact ho
  | cons x t =>
    obtain ⟨k, e, hk⟩ := ho
    refine ⟨k, e, ?_⟩
    unfold withRep
    rw [if_neg (by rintro rfl; rw [hn] at hk; cases hk)]
    exact hk
theorem with_step {B : Nat} {w w' : World} {R : Rep} {g : Nat} {s : List Int} {bl o0 o1 o2 : Option Addr} (H : Nodes B w R) (hg : R g = some s) (hn : Node w R g s bl o0 o1 o2) (i : Nat) (hi : i < 3) (ho : onOf i o0 o1 o2 = none) (hB : B ≤ w.heap.size)
    (hos : w'.os = w.os) (htp : w'.tape = w.tape) (hou : w'.output = w.output) (hsz : w.heap.size ≤ w'.heap.size) (hblk : ∀ k, k < w.heap.size → k ≠ g → w'.heap[k]? = w.heap[k]?)
    (hro : Row w' g 106 ((nodeCells s bl o0 o1 o2).set (3 + i) (.pointer (some ⟨w.heap.size, 0, none⟩)))) (hrn : Row w' w.heap.size 106 (nodeCells (kindOf i :: s) (some ⟨g, 0, none⟩) none none none)) :
    Nodes B w' (withRep R w.heap.size (kindOf i :: s)) ∧ Grew R w (withRep R w.heap.size (kindOf i :: s)) w' := by
  have hlt := hn.row.lt
  have hnone : R w.heap.size = none := by
    cases hr : R w.heap.size with
    | none => rfl
    | some t => have := H.lt hr; omega
  have hno : ∀ h, R h ≠ some (kindOf i :: s) := by
    have h0 := hn.on0
    have h1 := hn.on1
    have h2 := hn.on2
    unfold onOf at ho
    unfold kindOf
    split at ho
    · subst ho
      rename_i e; rw [if_pos e]
      rcases h0 with ⟨_, h⟩ | ⟨k, e, _⟩
      · exact h
      · cases e
    · rename_i e; rw [if_neg e]
      split at ho
      · subst ho
        rename_i e; rw [if_pos e]
        rcases h1 with ⟨_, h⟩ | ⟨k, e, _⟩
        · exact h
        · cases e
      · subst ho
        rename_i e; rw [if_neg e]
        rcases h2 with ⟨_, h⟩ | ⟨k, e, _⟩
        · exact h
        · cases e
  have hrep : ∀ k, k ≠ w.heap.size → withRep R w.heap.size (kindOf i :: s) k = R k := fun k hk => by unfold withRep; rw [if_neg hk]
  have hself : withRep R w.heap.size (kindOf i :: s) w.heap.size = some (kindOf i :: s) := by unfold withRep; rw [if_pos rfl]
  have hgs : g ≠ w.heap.size := by omega
  refine ⟨⟨?_, ?_, ?_⟩, ⟨?_, ?_, ?_, hsz, ?_, ?_, ?_⟩⟩
  · intro k t hk
    by_cases e : k = w.heap.size
    · omega
    · rw [hrep k e] at hk
      exact H.low k t hk
  · intro a b t ha hb
    by_cases e1 : a = w.heap.size
    · by_cases e2 : b = w.heap.size
      · omega
      · subst e1
        rw [hself] at ha
        rw [hrep b e2, ← ha] at hb
        exact absurd hb (hno b)
    · by_cases e2 : b = w.heap.size
      · subst e2
        rw [hself] at hb
        rw [hrep a e1, ← hb] at ha
        exact absurd ha (hno a)
      · rw [hrep a e1] at ha
        rw [hrep b e2] at hb
        exact H.inj a b t ha hb
  · intro k t hk
    by_cases e : k = w.heap.size
    · subst e
      rw [hself] at hk
      obtain rfl := Option.some.inj hk
      have hnew : ∀ (x : Int) k, withRep R w.heap.size (kindOf i :: s) k ≠ some (x :: kindOf i :: s) := fun x k hk => by
        by_cases e : k = w.heap.size
        · subst e
          rw [hself] at hk
          have := congrArg List.length (Option.some.inj hk)
          simp at this
        · rw [hrep k e] at hk
          obtain ⟨bl', _, _, _, hn'⟩ := H.node k _ hk
          obtain ⟨h, _, hh⟩ := hn'.below
          exact hno h hh
      refine ⟨some ⟨g, 0, none⟩, none, none, none, ⟨?_, ⟨g, rfl, by rw [hrep g hgs]; exact hg⟩, .inl ⟨rfl, hnew 118⟩, .inl ⟨rfl, hnew 112⟩, .inl ⟨rfl, hnew 116⟩⟩⟩
      exact hrn
    · rw [hrep k e] at hk
      by_cases e2 : k = g
      · subst e2
        rw [hg] at hk
        obtain rfl := Option.some.inj hk
        have hrow := hro
        have hon : OnOk (withRep R w.heap.size (kindOf i :: s)) (some ⟨w.heap.size, 0, none⟩) (kindOf i :: s) := .inr ⟨_, rfl, hself⟩
        have hother : ∀ (x : Int) o, x ≠ kindOf i → OnOk R o (x :: s) → OnOk (withRep R w.heap.size (kindOf i :: s)) o (x :: s) := fun x o hx h => onOk_keep h hnone (fun e => hx (List.cons.inj e).1.symm)
        have hcase : i = 0 ∨ i = 1 ∨ i = 2 := by omega
        rcases hcase with rfl | rfl | rfl
        · exact ⟨bl, some ⟨w.heap.size, 0, none⟩, o1, o2, ⟨hrow, below_keep hn.below hnone, hon, hother 112 o1 (by decide) hn.on1, hother 116 o2 (by decide) hn.on2⟩⟩
        · exact ⟨bl, o0, some ⟨w.heap.size, 0, none⟩, o2, ⟨hrow, below_keep hn.below hnone, hother 118 o0 (by decide) hn.on0, hon, hother 116 o2 (by decide) hn.on2⟩⟩
        · exact ⟨bl, o0, o1, some ⟨w.heap.size, 0, none⟩, ⟨hrow, below_keep hn.below hnone, hother 118 o0 (by decide) hn.on0, hother 112 o1 (by decide) hn.on1, hon⟩⟩
      · obtain ⟨bl', p0, p1, p2, hn'⟩ := H.node k t hk
        have hts : t ≠ s := fun e => e2 (H.inj k g s (by rw [hk, e]) hg)
        have hother : ∀ (x : Int) o, OnOk R o (x :: t) → OnOk (withRep R w.heap.size (kindOf i :: s)) o (x :: t) := fun x o h => onOk_keep h hnone (fun e => hts (List.cons.inj e).2.symm)
        exact ⟨bl', p0, p1, p2, ⟨(hblk k (H.lt hk) e2).trans hn'.row, below_keep hn'.below hnone, hother 118 p0 hn'.on0, hother 112 p1 hn'.on1, hother 116 p2 hn'.on2⟩⟩
  · exact hos
  · exact htp
  · exact hou
  · exact fun k hk hr => hblk k hk (by rintro rfl; rw [hg] at hr; cases hr)
  · exact fun k t hk => by
      rw [hrep k (by rintro rfl; rw [hnone] at hk; cases hk)]
      exact hk
  · exact fun k hk hr => by rw [hrep k (by omega)]; exact hr
theorem with_world {B : Nat} {w : World} {R : Rep} {g : Nat} {s : List Int} {bl o0 o1 o2 : Option Addr} (H : Nodes B w R) (hg : R g = some s) (hn : Node w R g s bl o0 o1 o2) (i : Nat) (hi : i < 3) (ho : none = onOf i o0 o1 o2) (hB : B ≤ w.heap.size) (c : Int) (hc : c = kindOf i) (W : World)
    (hW : W = ((w.setCell ⟨g, 3 + i, none⟩ (.pointer (some ⟨w.heap.size, 0, none⟩))).alloc (.cells #[.int .u8 c, .pointer (some ⟨g, 0, none⟩), .int .i64 ((s.length : Int) + 1), .pointer none, .pointer none, .pointer none] 106)).drew) :
    Nodes B W (withRep R w.heap.size (kindOf i :: s)) ∧ Grew R w (withRep R w.heap.size (kindOf i :: s)) W ∧ W.cell? ⟨g, 3 + i, none⟩ = some (.pointer (some ⟨w.heap.size, 0, none⟩)) := by
  subst hc
  have hlt := hn.row.lt
  have hsz : (w.setCell ⟨g, 3 + i, none⟩ (.pointer (some ⟨w.heap.size, 0, none⟩))).heap.size = w.heap.size := by simp [World.setCell]
  have hro : Row W g 106 ((nodeCells s bl o0 o1 o2).set (3 + i) (.pointer (some ⟨w.heap.size, 0, none⟩))) := by
    rw [hW]
    exact ((hn.row.set _ _).alloc _).drew
  have hrn : Row W w.heap.size 106 (nodeCells (kindOf i :: s) (some ⟨g, 0, none⟩) none none none) := by
    rw [hW]
    have := (Row.made (w.setCell ⟨g, 3 + i, none⟩ (.pointer (some ⟨w.heap.size, 0, none⟩))) 106 (nodeCells (kindOf i :: s) (some ⟨g, 0, none⟩) none none none)).drew
    rw [hsz] at this
    simpa [nodeCells] using this
  have := with_step (w' := W) H hg hn i hi ho.symm hB (by rw [hW]; rfl) (by rw [hW]; rfl) (by rw [hW]; rfl) (by rw [hW]; show w.heap.size ≤ (World.alloc _ _).heap.size; simp [hsz]) (fun k hk hkg => by
    rw [hW]
    exact (row_old _ _ k (by rw [hsz]; exact hk)).trans (Below.heap_setCell _ _ _ _ hkg)) hro hrn
  refine ⟨this.1, this.2, ?_⟩
  rw [hro.cell, List.getElem?_set, if_pos rfl, if_pos (by simp [nodeCells]; omega)]
end Go.Proofs.YtmecmlpoallpcaaGreatDoor
