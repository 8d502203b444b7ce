/- The walk of the law NumberRing: it returns true, and what was there stays. Conditions: what strconv.ParseFloat reads of the package's variables. -/
import Derived.Test.YtehakhplglhkdaaGreatDoorDoes
namespace Go.Proofs.YtehakhplglhkdaaGreatDoor
set_option linter.unusedVariables false
open Go.RowKit

/-- What the law says of division where b is not nought: Q, R, M and what their calls answer. -/
theorem ring_div (t : ByteArray) (a b : Int) (ha : I64 a) : b = 0 ∨ (b ≠ 0 ∧ ∃ Q R M : Int,
    (∀ w, Calls Tryz.prog 28 #[.string t, .string ⟨#[47]⟩, .int .i64 a, .int .i64 b] w fun e w' => e = .returned (.tuple #[.int .i64 Q, .bool true]) ∧ Below w.heap.size w w') ∧
    (∀ w, Calls Tryz.prog 28 #[.string t, .string ⟨#[37]⟩, .int .i64 a, .int .i64 b] w fun e w' => e = .returned (.tuple #[.int .i64 R, .bool true]) ∧ Below w.heap.size w w') ∧
    (∀ w, Calls Tryz.prog 28 #[.string t, .string ⟨#[42]⟩, .int .i64 Q, .int .i64 b] w fun e w' => e = .returned (.tuple #[.int .i64 M, .bool true]) ∧ Below w.heap.size w w') ∧
    (∀ w, Calls Tryz.prog 28 #[.string t, .string ⟨#[43]⟩, .int .i64 M, .int .i64 R] w fun e w' => e = .returned (.tuple #[.int .i64 a, .bool true]) ∧ Below w.heap.size w w') ∧
    ((R == 0) = true ∨ (R == 0) = false ∧ decide (R < 0) = decide (a < 0))) := by
  by_cases h0 : b = 0
  · exact .inl h0
  right
  refine ⟨h0, ?_⟩
  by_cases h1 : b = -1
  · subst h1
    refine ⟨wrap64 (-a), 0, wrap64 (wrap64 (-a) * (-1)), fun w => does_of _ t a (-1) _ w (bin_divm t a), fun w => ?_, fun w => does_of _ t _ (-1) _ w (bin_mul t _ _), fun w => ?_, .inl rfl⟩
    · have := does_of ⟨#[37]⟩ t a (-1) _ w (bin_remm t a)
      rwa [restm_eq ha] at this
    · have := does_of ⟨#[43]⟩ t (wrap64 (wrap64 (-a) * (-1))) 0 _ w (bin_add t _ _)
      rwa [wholem_eq ha] at this
  · refine ⟨wrap64 (a.tdiv b), a.tmod b, wrap64 (wrap64 (a.tdiv b) * b), fun w => does_of _ t a b _ w (bin_div t a b · h0 h1), fun w => ?_, fun w => does_of _ t _ b _ w (bin_mul t _ _), fun w => ?_, ?_⟩
    · have := does_of ⟨#[37]⟩ t a b _ w (bin_rem t a b · h0 h1)
      rwa [rest_eq ha h0 h1] at this
    · have := does_of ⟨#[43]⟩ t (wrap64 (wrap64 (a.tdiv b) * b)) (a.tmod b) _ w (bin_add t _ _)
      have he := whole_eq (wrap64 (a.tdiv b) * b) ha
      rw [rest_eq ha h0 h1] at he
      rwa [he] at this
    · by_cases hr : a.tmod b = 0
      · left; simp [hr]
      · right; exact ⟨by simp [hr], rest_sign a b hr⟩
theorem shl_one (t : ByteArray) (a : Int) (i : Nat) (w : World) : Calls Tryz.prog 28 #[.string t, .string ⟨#[60, 60]⟩, .int .i64 (wrap64 (a * 2 ^ i)), .int .i64 1] w fun e w' => e = .returned (.tuple #[.int .i64 (wrap64 (a * 2 ^ (i + 1))), .bool true]) ∧ Below w.heap.size w w' := by
  have := does_of ⟨#[60, 60]⟩ t (wrap64 (a * 2 ^ i)) 1 _ w (bin_shl t _ _ · (by decide))
  rwa [if_neg (by decide), shl_step] at this
theorem shr_one (t : ByteArray) (a : Int) (i : Nat) (w : World) : Calls Tryz.prog 28 #[.string t, .string ⟨#[62, 62]⟩, .int .i64 (a / 2 ^ i), .int .i64 1] w fun e w' => e = .returned (.tuple #[.int .i64 (a / 2 ^ (i + 1)), .bool true]) ∧ Below w.heap.size w w' := by
  have := does_of ⟨#[62, 62]⟩ t (a / 2 ^ i) 1 _ w (bin_shr t _ _ · (by decide))
  rwa [if_neg (by decide), shr_step] at this
theorem shl_all (t : ByteArray) (a : Int) (n : Nat) (w : World) : Calls Tryz.prog 28 #[.string t, .string ⟨#[60, 60]⟩, .int .i64 a, .int .i64 n] w fun e w' => e = .returned (.tuple #[.int .i64 (wrap64 (a * 2 ^ n)), .bool true]) ∧ Below w.heap.size w w' := by
  have := does_of ⟨#[60, 60]⟩ t a n _ w (bin_shl t _ _ · (by omega))
  rwa [shl_end] at this
theorem shr_all (t : ByteArray) {a : Int} (ha : I64 a) (n : Nat) (w : World) : Calls Tryz.prog 28 #[.string t, .string ⟨#[62, 62]⟩, .int .i64 a, .int .i64 n] w fun e w' => e = .returned (.tuple #[.int .i64 (a / 2 ^ n), .bool true]) ∧ Below w.heap.size w w' := by
  have := does_of ⟨#[62, 62]⟩ t a n _ w (bin_shr t _ _ · (by omega))
  rwa [shr_end ha] at this

set_option maxRecDepth 200000 in
set_option maxHeartbeats 4000000 in
theorem numberRing_any (t : ByteArray) (a b c : Int) (w : World) (ha : I64 a) (hb : I64 b) (hc : I64 c) (hG : Glob w) :
    Calls Tryz.prog 7 #[.string t, .int .i64 a, .int .i64 b, .int .i64 c] w fun e w' => e = .returned (.bool true) ∧ Below w.heap.size w w' := by
  have h11 := known_any w hG
  have G1 := Lib.hid fun w => does_of ⟨#[43]⟩ t a b _ w (bin_add t a b)
  have G2 : Hid (∀ w, Calls Tryz.prog 28 #[.string t, .string ⟨#[45]⟩, .int .i64 (wrap64 (a + b)), .int .i64 b] w fun e w' => e = .returned (.tuple #[.int .i64 a, .bool true]) ∧ Below w.heap.size w w') := fun w => by
    have := does_of ⟨#[45]⟩ t (wrap64 (a + b)) b _ w (bin_sub t _ b)
    rwa [less_eq b ha] at this
  have G3 := Lib.hid fun w => un_neg t b w
  have G4 : Hid (∀ w, Calls Tryz.prog 28 #[.string t, .string ⟨#[43]⟩, .int .i64 (wrap64 (a + b)), .int .i64 (wrap64 (-b))] w fun e w' => e = .returned (.tuple #[.int .i64 a, .bool true]) ∧ Below w.heap.size w w') := fun w => by
    have := does_of ⟨#[43]⟩ t (wrap64 (a + b)) (wrap64 (-b)) _ w (bin_add t _ _)
    rwa [again_eq b ha] at this
  have G5 : Hid (∀ w, Calls Tryz.prog 12 #[.string ⟨#[94]⟩, (mk 2 t a 0 ⟨#[]⟩).val] w fun e w' => e = .returned (.tuple #[(mk 2 t (-a - 1) 0 ⟨#[]⟩).val, .nilIface]) ∧ Below w.heap.size w w') := fun w => by
    have := un_not t a w
    rwa [xor_left ha] at this
  have G6 : Hid (∀ w, Calls Tryz.prog 28 #[.string t, .string ⟨#[94]⟩, .int .i64 a, .int .i64 (-1)] w fun e w' => e = .returned (.tuple #[.int .i64 (-a - 1), .bool true]) ∧ Below w.heap.size w w') := fun w => by
    have := does_of ⟨#[94]⟩ t a (-1) _ w (bin_xor t _ _)
    rwa [xor_right ha] at this
  have G7 : Hid (∀ w, Calls Tryz.prog 28 #[.string t, .string ⟨#[43]⟩, .int .i64 a, .int .i64 (-a - 1)] w fun e w' => e = .returned (.tuple #[.int .i64 (-1), .bool true]) ∧ Below w.heap.size w w') := fun w => by
    have := does_of ⟨#[43]⟩ t a (-a - 1) _ w (bin_add t _ _)
    rwa [all_eq a] at this
  have Hpick := Lib.hid fun w => pick_any c 70 (by omega) (by omega) w hc
  obtain ⟨X, hX⟩ : ∃ X, X = wrap64 (a + b) := ⟨_, rfl⟩
  obtain ⟨Y, hY⟩ : ∃ Y, Y = wrap64 (-b) := ⟨_, rfl⟩
  obtain ⟨Z, hZ⟩ : ∃ Z, Z = -a - 1 := ⟨_, rfl⟩
  rw [← hX] at G1 G2 G4
  rw [← hY] at G3 G4
  rw [← hZ] at G5 G6 G7
  have HA := Lib.hid ha
  unfold mk Dat.val at G3 G5
  have HDiv := ring_div t a b ha
  clear hG hX hY hZ hb hc ha
  have HD : (b == 0) = true ∨ (b == 0) = false ∧ ∃ Q R M : Int, _ := HDiv.imp (fun h => by simp [h]) (fun h => ⟨by simp [h.1], h.2⟩)
  clear HDiv
  rcases HD with hb0 | ⟨hb0, Q, R, M, d1, d2, d3, d4, hR⟩
  · go_enter Tryz.func7, Tryz.ntmps7
    go_wp2_with (first
      | (go_at_call 29; go_in)
      | (go_at_call 11; refine h11.mono ?_; rintro en w1 ⟨rfl, hb⟩; have B1 := Lib.hid hb; clear hb h11)
      | (go_at_call 28; have ord := B1.out.size; refine (G1.out _).mono ?_; rintro en w2 ⟨rfl, hb⟩; have B2 := Lib.hid (below_more B1.out hb B1.out.size); clear hb G1 B1 ord)
      | (go_at_call 28; have ord := B2.out.size; refine (G2.out _).mono ?_; rintro en w3 ⟨rfl, hb⟩; have B3 := Lib.hid (below_more B2.out hb B2.out.size); clear hb G2 B2 ord)
      | (go_at_call 12; have ord := B3.out.size; refine (G3.out _).mono ?_; rintro en w4 ⟨rfl, hb⟩
         have B4 : Hid (Below w.heap.size w w4) := below_more (B3.out.alloc B3.out.size _) hb (by have := B3.out.size; simp; omega)
         clear hb G3 B3 ord)
      | (go_at_call 28; have ord := B4.out.size; refine (G4.out _).mono ?_; rintro en w5 ⟨rfl, hb⟩
         have B5 : Hid (Below w.heap.size w w5) := below_more (B4.out.alloc B4.out.size _) hb (by have := B4.out.size; simp; omega)
         clear hb G4 B4 ord)
      | (go_at_call 12; have ord := B5.out.size; refine (G5.out _).mono ?_; rintro en w6 ⟨rfl, hb⟩
         have B6 : Hid (Below w.heap.size w w6) := below_more (B5.out.alloc B5.out.size _) hb (by have := B5.out.size; simp; omega)
         clear hb G5 B5 ord)
      | (go_at_call 28; have ord := B6.out.size; refine (G6.out _).mono ?_; rintro en w7 ⟨rfl, hb⟩
         have B7 : Hid (Below w.heap.size w w7) := below_more (B6.out.alloc B6.out.size _) hb (by have := B6.out.size; simp; omega)
         have R7 : Hid (Row w7 w6.heap.size 28 (mk 2 t Z 0 ⟨#[]⟩).cells) := (Row.made w6 28 (mk 2 t Z 0 ⟨#[]⟩).cells).below hb (by simp)
         have z7 := R7.out.cell 2
         simp only [mk, Dat.cells, List.getElem?_cons_zero, List.getElem?_cons_succ] at z7
         clear hb G6 B6 ord)
      | (go_at_call 28; have ord := B7.out.size; refine (G7.out _).mono ?_; rintro en w8 ⟨rfl, hb⟩
         have B8 : Hid (Below w.heap.size w w8) := below_more B7.out hb B7.out.size
         have R8 : Hid (Row w8 w6.heap.size 28 (mk 2 t Z 0 ⟨#[]⟩).cells) := R7.out.below hb R7.out.lt
         have z8 := R8.out.cell 2
         simp only [mk, Dat.cells, List.getElem?_cons_zero, List.getElem?_cons_succ] at z8
         clear hb G7 B7 ord R7 z7)
      | (go_at_call 28; have ord := B8.out.size; refine (D1.out _).mono ?_; rintro en w9 ⟨rfl, hb⟩; have B9 := Lib.hid (below_more B8.out hb B8.out.size); clear hb D1 B8 ord)
      | (go_at_call 28; have ord := B9.out.size; refine (D2.out _).mono ?_; rintro en w10 ⟨rfl, hb⟩; have B10 := Lib.hid (below_more B9.out hb B9.out.size); clear hb D2 B9 ord)
      | (go_at_call 28; have ord := B10.out.size; refine (D3.out _).mono ?_; rintro en w11 ⟨rfl, hb⟩; have B11 := Lib.hid (below_more B10.out hb B10.out.size); clear hb D3 B10 ord)
      | (go_at_call 28; have ord := B11.out.size; refine (D4.out _).mono ?_; rintro en w12 ⟨rfl, hb⟩; have B12 := Lib.hid (below_more B11.out hb B11.out.size); clear hb D4 B11 ord)
      | (go_at_call 30; refine (Hpick.out _).mono ?_; rintro en wp ⟨n, rfl, hn, hw⟩
         have BP : Hid (Below w.heap.size w wp) := by rw [hw]; first | exact B12 | exact B8
         clear hw Hpick))
    go_loopw [33, 34, 35] (fun l r v wr => ∃ i : Nat, v = .int .i64 i ∧ i ≤ n ∧ l = .int .i64 (wrap64 (a * 2 ^ i)) ∧ r = .int .i64 (a / 2 ^ i) ∧ Hid (Below w.heap.size w wr)) (fun _ _ v _ => n - (intOf v).toNat)
    case atStart => exact ⟨0, rfl, Nat.zero_le _, by rw [Int.pow_zero, Int.mul_one, wrap_id HA.out], by rw [Int.pow_zero, Int.ediv_one], BP⟩
    case round =>
      clear BP
      obtain ⟨i, rfl, hi, rfl, rfl, BR⟩ := hrel
      by_cases hlt : i < n
      · have S1 := Lib.hid fun w => shl_one t a i w
        have S2 := Lib.hid fun w => shr_one t a i w
        obtain ⟨L, hL⟩ : ∃ L, L = wrap64 (a * 2 ^ i) := ⟨_, rfl⟩
        obtain ⟨L2, hL2⟩ : ∃ L, L = wrap64 (a * 2 ^ (i + 1)) := ⟨_, rfl⟩
        obtain ⟨R1, hR1⟩ : ∃ L, L = a / 2 ^ i := ⟨_, rfl⟩
        obtain ⟨R2, hR2⟩ : ∃ L, L = a / 2 ^ (i + 1) := ⟨_, rfl⟩
        rw [← hL, ← hL2] at S1
        rw [← hR1, ← hR2] at S2
        have HL2 := Lib.hid hL2
        have HR2 := Lib.hid hR2
        rw [← hL, ← hR1]
        clear hL hL2 hR1 hR2
        go_wp2_with (first
          | (go_at_call 28; refine (S1.out _).mono ?_; rintro en wa ⟨rfl, hb⟩; have BA := Lib.hid (below_more BR.out hb BR.out.size); clear hb S1 BR)
          | (go_at_call 28; have ord := BA.out.size; refine (S2.out _).mono ?_; rintro en wb ⟨rfl, hb⟩; have BB := Lib.hid (below_more BA.out hb BA.out.size); clear hb S2 BA ord))
        go_roundw
        case rel => exact ⟨i + 1, by go_num, by omega, by rw [HL2.out], by rw [HR2.out], BB⟩
        case measure => simp [intOf]; omega
      · obtain rfl : i = n := by omega
        have S1 := Lib.hid fun w => shl_all t a i w
        have S2 := Lib.hid fun w => shr_all t HA.out i w
        obtain ⟨L, hL⟩ : ∃ L, L = wrap64 (a * 2 ^ i) := ⟨_, rfl⟩
        obtain ⟨R1, hR1⟩ : ∃ L, L = a / 2 ^ i := ⟨_, rfl⟩
        rw [← hL] at S1
        rw [← hR1] at S2
        rw [← hL, ← hR1]
        clear hL hR1
        go_wp2_with (first
          | (go_at_call 28; refine (S1.out _).mono ?_; rintro en wa ⟨rfl, hb⟩; have BA := Lib.hid (below_more BR.out hb BR.out.size); clear hb S1 BR)
          | (go_at_call 28; have ord := BA.out.size; refine (S2.out _).mono ?_; rintro en wb ⟨rfl, hb⟩; have BB := Lib.hid (below_more BA.out hb BA.out.size); clear hb S2 BA ord))
        go_returns
        exact ⟨rfl, BB.out⟩

  · have D1 := Lib.hid d1
    have D2 := Lib.hid d2
    have D3 := Lib.hid d3
    have D4 := Lib.hid d4
    clear d1 d2 d3 d4
    rcases hR with hR | ⟨hR, hRs⟩
    · obtain rfl : R = 0 := by simpa using hR
      clear hR
      go_enter Tryz.func7, Tryz.ntmps7
      go_wp2_with (first
        | (go_at_call 29; go_in)
        | (go_at_call 11; refine h11.mono ?_; rintro en w1 ⟨rfl, hb⟩; have B1 := Lib.hid hb; clear hb h11)
        | (go_at_call 28; have ord := B1.out.size; refine (G1.out _).mono ?_; rintro en w2 ⟨rfl, hb⟩; have B2 := Lib.hid (below_more B1.out hb B1.out.size); clear hb G1 B1 ord)
        | (go_at_call 28; have ord := B2.out.size; refine (G2.out _).mono ?_; rintro en w3 ⟨rfl, hb⟩; have B3 := Lib.hid (below_more B2.out hb B2.out.size); clear hb G2 B2 ord)
        | (go_at_call 12; have ord := B3.out.size; refine (G3.out _).mono ?_; rintro en w4 ⟨rfl, hb⟩
           have B4 : Hid (Below w.heap.size w w4) := below_more (B3.out.alloc B3.out.size _) hb (by have := B3.out.size; simp; omega)
           clear hb G3 B3 ord)
        | (go_at_call 28; have ord := B4.out.size; refine (G4.out _).mono ?_; rintro en w5 ⟨rfl, hb⟩
           have B5 : Hid (Below w.heap.size w w5) := below_more (B4.out.alloc B4.out.size _) hb (by have := B4.out.size; simp; omega)
           clear hb G4 B4 ord)
        | (go_at_call 12; have ord := B5.out.size; refine (G5.out _).mono ?_; rintro en w6 ⟨rfl, hb⟩
           have B6 : Hid (Below w.heap.size w w6) := below_more (B5.out.alloc B5.out.size _) hb (by have := B5.out.size; simp; omega)
           clear hb G5 B5 ord)
        | (go_at_call 28; have ord := B6.out.size; refine (G6.out _).mono ?_; rintro en w7 ⟨rfl, hb⟩
           have B7 : Hid (Below w.heap.size w w7) := below_more (B6.out.alloc B6.out.size _) hb (by have := B6.out.size; simp; omega)
           have R7 : Hid (Row w7 w6.heap.size 28 (mk 2 t Z 0 ⟨#[]⟩).cells) := (Row.made w6 28 (mk 2 t Z 0 ⟨#[]⟩).cells).below hb (by simp)
           have z7 := R7.out.cell 2
           simp only [mk, Dat.cells, List.getElem?_cons_zero, List.getElem?_cons_succ] at z7
           clear hb G6 B6 ord)
        | (go_at_call 28; have ord := B7.out.size; refine (G7.out _).mono ?_; rintro en w8 ⟨rfl, hb⟩
           have B8 : Hid (Below w.heap.size w w8) := below_more B7.out hb B7.out.size
           have R8 : Hid (Row w8 w6.heap.size 28 (mk 2 t Z 0 ⟨#[]⟩).cells) := R7.out.below hb R7.out.lt
           have z8 := R8.out.cell 2
           simp only [mk, Dat.cells, List.getElem?_cons_zero, List.getElem?_cons_succ] at z8
           clear hb G7 B7 ord R7 z7)
        | (go_at_call 28; have ord := B8.out.size; refine (D1.out _).mono ?_; rintro en w9 ⟨rfl, hb⟩; have B9 := Lib.hid (below_more B8.out hb B8.out.size); clear hb D1 B8 ord)
        | (go_at_call 28; have ord := B9.out.size; refine (D2.out _).mono ?_; rintro en w10 ⟨rfl, hb⟩; have B10 := Lib.hid (below_more B9.out hb B9.out.size); clear hb D2 B9 ord)
        | (go_at_call 28; have ord := B10.out.size; refine (D3.out _).mono ?_; rintro en w11 ⟨rfl, hb⟩; have B11 := Lib.hid (below_more B10.out hb B10.out.size); clear hb D3 B10 ord)
        | (go_at_call 28; have ord := B11.out.size; refine (D4.out _).mono ?_; rintro en w12 ⟨rfl, hb⟩; have B12 := Lib.hid (below_more B11.out hb B11.out.size); clear hb D4 B11 ord)
        | (go_at_call 30; refine (Hpick.out _).mono ?_; rintro en wp ⟨n, rfl, hn, hw⟩
           have BP : Hid (Below w.heap.size w wp) := by rw [hw]; first | exact B12 | exact B8
           clear hw Hpick))
      go_loopw [33, 34, 35] (fun l r v wr => ∃ i : Nat, v = .int .i64 i ∧ i ≤ n ∧ l = .int .i64 (wrap64 (a * 2 ^ i)) ∧ r = .int .i64 (a / 2 ^ i) ∧ Hid (Below w.heap.size w wr)) (fun _ _ v _ => n - (intOf v).toNat)
      case atStart => exact ⟨0, rfl, Nat.zero_le _, by rw [Int.pow_zero, Int.mul_one, wrap_id HA.out], by rw [Int.pow_zero, Int.ediv_one], BP⟩
      case round =>
        clear BP
        obtain ⟨i, rfl, hi, rfl, rfl, BR⟩ := hrel
        by_cases hlt : i < n
        · have S1 := Lib.hid fun w => shl_one t a i w
          have S2 := Lib.hid fun w => shr_one t a i w
          obtain ⟨L, hL⟩ : ∃ L, L = wrap64 (a * 2 ^ i) := ⟨_, rfl⟩
          obtain ⟨L2, hL2⟩ : ∃ L, L = wrap64 (a * 2 ^ (i + 1)) := ⟨_, rfl⟩
          obtain ⟨R1, hR1⟩ : ∃ L, L = a / 2 ^ i := ⟨_, rfl⟩
          obtain ⟨R2, hR2⟩ : ∃ L, L = a / 2 ^ (i + 1) := ⟨_, rfl⟩
          rw [← hL, ← hL2] at S1
          rw [← hR1, ← hR2] at S2
          have HL2 := Lib.hid hL2
          have HR2 := Lib.hid hR2
          rw [← hL, ← hR1]
          clear hL hL2 hR1 hR2
          go_wp2_with (first
            | (go_at_call 28; refine (S1.out _).mono ?_; rintro en wa ⟨rfl, hb⟩; have BA := Lib.hid (below_more BR.out hb BR.out.size); clear hb S1 BR)
            | (go_at_call 28; have ord := BA.out.size; refine (S2.out _).mono ?_; rintro en wb ⟨rfl, hb⟩; have BB := Lib.hid (below_more BA.out hb BA.out.size); clear hb S2 BA ord))
          go_roundw
          case rel => exact ⟨i + 1, by go_num, by omega, by rw [HL2.out], by rw [HR2.out], BB⟩
          case measure => simp [intOf]; omega
        · obtain rfl : i = n := by omega
          have S1 := Lib.hid fun w => shl_all t a i w
          have S2 := Lib.hid fun w => shr_all t HA.out i w
          obtain ⟨L, hL⟩ : ∃ L, L = wrap64 (a * 2 ^ i) := ⟨_, rfl⟩
          obtain ⟨R1, hR1⟩ : ∃ L, L = a / 2 ^ i := ⟨_, rfl⟩
          rw [← hL] at S1
          rw [← hR1] at S2
          rw [← hL, ← hR1]
          clear hL hR1
          go_wp2_with (first
            | (go_at_call 28; refine (S1.out _).mono ?_; rintro en wa ⟨rfl, hb⟩; have BA := Lib.hid (below_more BR.out hb BR.out.size); clear hb S1 BR)
            | (go_at_call 28; have ord := BA.out.size; refine (S2.out _).mono ?_; rintro en wb ⟨rfl, hb⟩; have BB := Lib.hid (below_more BA.out hb BA.out.size); clear hb S2 BA ord))
          go_returns
          exact ⟨rfl, BB.out⟩

    · have hR1 : (R != 0) = true := by simp only [bne, hR]; rfl
      go_enter Tryz.func7, Tryz.ntmps7
      go_wp2_with (first
        | (go_at_call 29; go_in)
        | (go_at_call 11; refine h11.mono ?_; rintro en w1 ⟨rfl, hb⟩; have B1 := Lib.hid hb; clear hb h11)
        | (go_at_call 28; have ord := B1.out.size; refine (G1.out _).mono ?_; rintro en w2 ⟨rfl, hb⟩; have B2 := Lib.hid (below_more B1.out hb B1.out.size); clear hb G1 B1 ord)
        | (go_at_call 28; have ord := B2.out.size; refine (G2.out _).mono ?_; rintro en w3 ⟨rfl, hb⟩; have B3 := Lib.hid (below_more B2.out hb B2.out.size); clear hb G2 B2 ord)
        | (go_at_call 12; have ord := B3.out.size; refine (G3.out _).mono ?_; rintro en w4 ⟨rfl, hb⟩
           have B4 : Hid (Below w.heap.size w w4) := below_more (B3.out.alloc B3.out.size _) hb (by have := B3.out.size; simp; omega)
           clear hb G3 B3 ord)
        | (go_at_call 28; have ord := B4.out.size; refine (G4.out _).mono ?_; rintro en w5 ⟨rfl, hb⟩
           have B5 : Hid (Below w.heap.size w w5) := below_more (B4.out.alloc B4.out.size _) hb (by have := B4.out.size; simp; omega)
           clear hb G4 B4 ord)
        | (go_at_call 12; have ord := B5.out.size; refine (G5.out _).mono ?_; rintro en w6 ⟨rfl, hb⟩
           have B6 : Hid (Below w.heap.size w w6) := below_more (B5.out.alloc B5.out.size _) hb (by have := B5.out.size; simp; omega)
           clear hb G5 B5 ord)
        | (go_at_call 28; have ord := B6.out.size; refine (G6.out _).mono ?_; rintro en w7 ⟨rfl, hb⟩
           have B7 : Hid (Below w.heap.size w w7) := below_more (B6.out.alloc B6.out.size _) hb (by have := B6.out.size; simp; omega)
           have R7 : Hid (Row w7 w6.heap.size 28 (mk 2 t Z 0 ⟨#[]⟩).cells) := (Row.made w6 28 (mk 2 t Z 0 ⟨#[]⟩).cells).below hb (by simp)
           have z7 := R7.out.cell 2
           simp only [mk, Dat.cells, List.getElem?_cons_zero, List.getElem?_cons_succ] at z7
           clear hb G6 B6 ord)
        | (go_at_call 28; have ord := B7.out.size; refine (G7.out _).mono ?_; rintro en w8 ⟨rfl, hb⟩
           have B8 : Hid (Below w.heap.size w w8) := below_more B7.out hb B7.out.size
           have R8 : Hid (Row w8 w6.heap.size 28 (mk 2 t Z 0 ⟨#[]⟩).cells) := R7.out.below hb R7.out.lt
           have z8 := R8.out.cell 2
           simp only [mk, Dat.cells, List.getElem?_cons_zero, List.getElem?_cons_succ] at z8
           clear hb G7 B7 ord R7 z7)
        | (go_at_call 28; have ord := B8.out.size; refine (D1.out _).mono ?_; rintro en w9 ⟨rfl, hb⟩; have B9 := Lib.hid (below_more B8.out hb B8.out.size); clear hb D1 B8 ord)
        | (go_at_call 28; have ord := B9.out.size; refine (D2.out _).mono ?_; rintro en w10 ⟨rfl, hb⟩; have B10 := Lib.hid (below_more B9.out hb B9.out.size); clear hb D2 B9 ord)
        | (go_at_call 28; have ord := B10.out.size; refine (D3.out _).mono ?_; rintro en w11 ⟨rfl, hb⟩; have B11 := Lib.hid (below_more B10.out hb B10.out.size); clear hb D3 B10 ord)
        | (go_at_call 28; have ord := B11.out.size; refine (D4.out _).mono ?_; rintro en w12 ⟨rfl, hb⟩; have B12 := Lib.hid (below_more B11.out hb B11.out.size); clear hb D4 B11 ord)
        | (go_at_call 30; refine (Hpick.out _).mono ?_; rintro en wp ⟨n, rfl, hn, hw⟩
           have BP : Hid (Below w.heap.size w wp) := by rw [hw]; first | exact B12 | exact B8
           clear hw Hpick))
      go_loopw [33, 34, 35] (fun l r v wr => ∃ i : Nat, v = .int .i64 i ∧ i ≤ n ∧ l = .int .i64 (wrap64 (a * 2 ^ i)) ∧ r = .int .i64 (a / 2 ^ i) ∧ Hid (Below w.heap.size w wr)) (fun _ _ v _ => n - (intOf v).toNat)
      case atStart => exact ⟨0, rfl, Nat.zero_le _, by rw [Int.pow_zero, Int.mul_one, wrap_id HA.out], by rw [Int.pow_zero, Int.ediv_one], BP⟩
      case round =>
        clear BP
        obtain ⟨i, rfl, hi, rfl, rfl, BR⟩ := hrel
        by_cases hlt : i < n
        · have S1 := Lib.hid fun w => shl_one t a i w
          have S2 := Lib.hid fun w => shr_one t a i w
          obtain ⟨L, hL⟩ : ∃ L, L = wrap64 (a * 2 ^ i) := ⟨_, rfl⟩
          obtain ⟨L2, hL2⟩ : ∃ L, L = wrap64 (a * 2 ^ (i + 1)) := ⟨_, rfl⟩
          obtain ⟨R1, hR1⟩ : ∃ L, L = a / 2 ^ i := ⟨_, rfl⟩
          obtain ⟨R2, hR2⟩ : ∃ L, L = a / 2 ^ (i + 1) := ⟨_, rfl⟩
          rw [← hL, ← hL2] at S1
          rw [← hR1, ← hR2] at S2
          have HL2 := Lib.hid hL2
          have HR2 := Lib.hid hR2
          rw [← hL, ← hR1]
          clear hL hL2 hR1 hR2
          go_wp2_with (first
            | (go_at_call 28; refine (S1.out _).mono ?_; rintro en wa ⟨rfl, hb⟩; have BA := Lib.hid (below_more BR.out hb BR.out.size); clear hb S1 BR)
            | (go_at_call 28; have ord := BA.out.size; refine (S2.out _).mono ?_; rintro en wb ⟨rfl, hb⟩; have BB := Lib.hid (below_more BA.out hb BA.out.size); clear hb S2 BA ord))
          go_roundw
          case rel => exact ⟨i + 1, by go_num, by omega, by rw [HL2.out], by rw [HR2.out], BB⟩
          case measure => simp [intOf]; omega
        · obtain rfl : i = n := by omega
          have S1 := Lib.hid fun w => shl_all t a i w
          have S2 := Lib.hid fun w => shr_all t HA.out i w
          obtain ⟨L, hL⟩ : ∃ L, L = wrap64 (a * 2 ^ i) := ⟨_, rfl⟩
          obtain ⟨R1, hR1⟩ : ∃ L, L = a / 2 ^ i := ⟨_, rfl⟩
          rw [← hL] at S1
          rw [← hR1] at S2
          rw [← hL, ← hR1]
          clear hL hR1
          go_wp2_with (first
            | (go_at_call 28; refine (S1.out _).mono ?_; rintro en wa ⟨rfl, hb⟩; have BA := Lib.hid (below_more BR.out hb BR.out.size); clear hb S1 BR)
            | (go_at_call 28; have ord := BA.out.size; refine (S2.out _).mono ?_; rintro en wb ⟨rfl, hb⟩; have BB := Lib.hid (below_more BA.out hb BA.out.size); clear hb S2 BA ord))
          go_returns
          exact ⟨rfl, BB.out⟩

end Go.Proofs.YtehakhplglhkdaaGreatDoor
