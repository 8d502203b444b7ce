/- guiseref6.Float of any text. Condition: the text is not great. -/
import Derived.Test.YtehakhplglhkdaaGreatDoorReadA
import Derived.Test.YtehakhplglhkdaaGreatDoorReadFP
namespace Go.Proofs.YtehakhplglhkdaaGreatDoor
set_option linter.unusedVariables false
open Go.RowKit

/-- A float's literal: what comes out. -/
def floOut (r : Bool) (q : Nat) : Value := .tuple #[if r then (mk 3 ⟨#[102, 108, 111, 97, 116]⟩ 0 (q : Int) ⟨#[]⟩).val else (mk 0 ⟨#[]⟩ 0 0 ⟨#[]⟩).val, .bool r]
theorem ten_le {m : Nat} (h : m ≤ 15) : 10 ^ m ≤ 1000000000000000 := by
  have : 10 ^ m ≤ 10 ^ 15 := Nat.pow_le_pow_right (by omega) h
  simpa using this
theorem step_n (n m c : Nat) (hn : n < 10 ^ m) (hm : m + 1 ≤ 15) (hc : 48 ≤ c ∧ c ≤ 57) :
    wrap64 (10 * (n : Int)) = 10 * (n : Int) ∧ wrap64 (10 * (n : Int) + ((c - 48 : Nat) : Int)) = ((10 * n + (c - 48) : Nat) : Int) ∧ 10 * n + (c - 48) < 10 ^ (m + 1) := by
  have h1 := ten_le (show m ≤ 15 by omega)
  have h2 : 10 ^ (m + 1) = 10 * 10 ^ m := by rw [Nat.pow_succ, Nat.mul_comm]
  rw [h2]
  generalize 10 ^ m = T at *
  refine ⟨wrap_id (by unfold I64; omega), ?_, by omega⟩
  rw [wrap_id (by unfold I64; omega)]
  omega
theorem step_m (m : Nat) (hm : m ≤ 15) : wrap64 ((m : Int) + 1) = (m : Int) + 1 := wrap_id (by unfold I64; omega)
theorem step_d (c : Nat) (h : 48 ≤ c ∧ c ≤ 57) : IntKind.u8.wrap ((c : Int) - 48) = ((c - 48 : Nat) : Int) ∧ wrap64 ((c - 48 : Nat) : Int) = ((c - 48 : Nat) : Int) := by
  refine ⟨?_, wrap_id (by unfold I64; omega)⟩
  show ((c : Int) - 48) % 256 = _
  omega
theorem step_e (e : Nat) (h : e ≤ 15) : wrap64 (10 * ((10 ^ e : Nat) : Int)) = ((10 ^ (e + 1) : Nat) : Int) := by
  have h1 := ten_le h
  have h2 : 10 ^ (e + 1) = 10 * 10 ^ e := by rw [Nat.pow_succ, Nat.mul_comm]
  rw [h2]
  generalize 10 ^ e = T at *
  rw [wrap_id (by unfold I64; omega)]
  omega
/-- What holds of the loop's state. -/
def InvF (k : Nat) (p : Int) (n m e : Nat) : Prop := n < 10 ^ m ∧ m ≤ 15 ∧ (p = -1 ∧ e = 0 ∧ m = k ∨ 0 ≤ p ∧ p + e = m ∧ m + 1 = k)
theorem drop_get {L : List UInt8} {k : Nat} (h : k < L.length) : L.drop k = L[k] :: L.drop (k + 1) := List.drop_eq_getElem_cons h
theorem fgo_point {c : UInt8} {r : List UInt8} {k : Nat} {p : Int} {n m e : Nat} (h1 : c.toNat = 46) (h2 : p < 0) : fgo (c :: r) k ⟨p, n, m, e⟩ = fgo r (k + 1) ⟨k, n, m, e⟩ := by rw [fgo, if_pos ⟨h1, h2⟩]
theorem fgo_bad {c : UInt8} {r : List UInt8} {k : Nat} {p : Int} {n m e : Nat} (h1 : ¬ (c.toNat = 46 ∧ p < 0)) (h2 : ¬ isD c) : fgo (c :: r) k ⟨p, n, m, e⟩ = none := by rw [fgo, if_neg h1, if_neg h2]
theorem fgo_many {c : UInt8} {r : List UInt8} {k : Nat} {p : Int} {n m e : Nat} (h1 : ¬ (c.toNat = 46 ∧ p < 0)) (h2 : isD c) (h3 : 15 < m + 1) : fgo (c :: r) k ⟨p, n, m, e⟩ = none := by rw [fgo, if_neg h1, if_pos h2, if_pos h3]
theorem fgo_digit {c : UInt8} {r : List UInt8} {k : Nat} {p : Int} {n m e : Nat} (h1 : ¬ (c.toNat = 46 ∧ p < 0)) (h2 : isD c) (h3 : ¬ 15 < m + 1) : fgo (c :: r) k ⟨p, n, m, e⟩ = fgo r (k + 1) ⟨p, 10 * n + (c.toNat - 48), m + 1, if p < 0 then e else e + 1⟩ := by rw [fgo, if_neg h1, if_pos h2, if_neg h3]
theorem tobits_r (b : Nat) (w : World) : Calls Tryz.prog 51 #[.float .f64 b] w fun e w' => e = .returned (.int .u64 (b : Int)) ∧ w' = w := by
  go_enter Tryz.func51, Tryz.ntmps51
  go_wp2
  go_ret
  exact ⟨rfl, rfl⟩
set_option maxRecDepth 200000 in
set_option maxHeartbeats 8000000 in
theorem reffloat_any (s : ByteArray) (r : Bool) (N E : Nat) (w : World) (hsz : s.size ≤ 9223372036854775806)
    (h0 : fgo s.data.toList 0 F0 = none → r = false) (h1 : ∀ F, fgo s.data.toList 0 F0 = some F → (r = true ↔ Fit s.size (s.data.toList.headD 0).toNat F) ∧ (r = true → N = F.n ∧ E = F.e ∧ F.n < 1000000000000000 ∧ E < 15)) :
    Calls Tryz.prog 27 #[.string s] w fun x w' => x = .returned (floOut r (qbits N E)) ∧ Below w.heap.size w w' := by
  have H0 := Lib.hid h0
  have H1 := Lib.hid h1
  clear h0 h1
  generalize hR : fgo s.data.toList 0 F0 = R at *
  have HR := Lib.hid hR
  clear hR
  obtain ⟨Q, hQ⟩ : ∃ Q, Q = qbits N E := ⟨_, rfl⟩
  rw [← hQ]
  have HQ := Lib.hid hQ
  clear hQ
  go_enter Tryz.func27, Tryz.ntmps27
  go_wp2
  go_loopw [3, 4, 5, 6, 7, 8] (fun q pt nn dd mm ii wr => ∃ (k : Nat) (p : Int) (n m e : Nat), pt = .int .i64 p ∧ nn = .int .i64 n ∧ dd = .int .i64 ((10 ^ e : Nat) : Int) ∧ mm = .int .i64 m ∧ ii = .int .i64 k ∧ k ≤ s.size ∧ Hid (fgo (s.data.toList.drop k) k ⟨p, n, m, e⟩ = R) ∧ Hid (InvF k p n m e) ∧ Hid (wr = w.alloc (.cells [.int .i64 0, .string ⟨#[]⟩, .int .i64 0, .int .u64 0, .string ⟨#[]⟩, .int .i64 0, .int .i64 0, .int .i64 0, .int .i64 0, .slice none 0 0, .slice none 0 0].toArray 28))) (fun _ _ _ _ _ i _ => s.size - (intOf i).toNat)
  case atStart => exact ⟨0, -1, 0, 0, 0, rfl, rfl, rfl, rfl, rfl, Nat.zero_le _, HR, Lib.hid ⟨by decide, by decide, .inl ⟨rfl, rfl, rfl⟩⟩, rfl⟩
  case round =>
    obtain ⟨k, p, n, m, e, rfl, rfl, rfl, rfl, rfl, hk, HG, HI, H⟩ := hrel
    have hw := H.out
    subst hw
    clear H
    obtain ⟨T, hT⟩ : ∃ T : Int, T = ((10 ^ e : Nat) : Int) := ⟨_, rfl⟩
    rw [← hT]
    have HT := Lib.hid hT
    clear hT
    obtain ⟨i1, i2, i3⟩ := HI.out
    by_cases hlt : k < s.size
    · have hi : (0 : Int) ≤ (k : Int) ∧ (k : Int) < (s.size : Int) := by omega
      have hg := HG.out
      rw [drop_get (by rw [size_list]; exact hlt), get_list s k hlt] at hg
      by_cases hp : s[k].toNat = 46 ∧ p < 0
      · rw [fgo_point hp.1 hp.2] at hg
        have HG2 := Lib.hid hg
        have HI2 : Hid (InvF (k + 1) k n m e) := Lib.hid ⟨i1, i2, .inr ⟨by omega, by rcases i3 with ⟨_, h2, h3⟩ | h <;> omega, by rcases i3 with ⟨_, h2, h3⟩ | h <;> omega⟩⟩
        have b1 : ((s[k].toNat : Int) == 46) = true := by simp; omega
        have b2 : decide (p < 0) = true := decide_eq_true hp.2
        clear hg hp i1 i2 i3 HG HI
        go_wp2
        go_roundw
        case rel => exact ⟨k + 1, k, n, m, e, rfl, rfl, by rw [HT.out], rfl, by go_num, by omega, HG2, HI2, trivial⟩
        case measure => simp [intOf]; omega
      · have b12 : ((s[k].toNat : Int) == 46) = false ∨ ((s[k].toNat : Int) == 46) = true ∧ decide (p < 0) = false := by
          by_cases h : s[k].toNat = 46
          · exact .inr ⟨by simp; omega, decide_eq_false (fun h2 => hp ⟨h, h2⟩)⟩
          · exact .inl (by simp; omega)
        by_cases hd : isD s[k]
        · have hc : 48 ≤ s[k].toNat ∧ s[k].toNat ≤ 57 := hd
          have b1 : ((s[k].toNat : Int) == 46) = false := by simp; omega
          have b5 : decide ((s[k].toNat : Int) < 48) = false := decide_eq_false (by omega)
          have b6 : decide ((57 : Int) < (s[k].toNat : Int)) = false := decide_eq_false (by omega)
          have c1 := step_m m i2
          by_cases hm : 15 < m + 1
          · rw [fgo_many hp hd hm] at hg
            obtain rfl : r = false := H0.out hg.symm
            have b7 : decide ((15 : Int) < (m : Int) + 1) = true := decide_eq_true (by omega)
            clear hg hp i1 i2 i3 HG HI hd hc b12 hm
            go_wp2
            go_returns
            exact ⟨rfl, by go_grown⟩
          · rw [fgo_digit hp hd hm] at hg
            have b7 : decide ((15 : Int) < (m : Int) + 1) = false := decide_eq_false (by omega)
            obtain ⟨d1, d2, d3⟩ := step_n n m s[k].toNat i1 (by omega) hc
            obtain ⟨d4, d5⟩ := step_d s[k].toNat hc
            by_cases hpt : p < 0
            · rw [if_pos hpt] at hg
              have HG2 := Lib.hid hg
              have HI2 : Hid (InvF (k + 1) p (10 * n + (s[k].toNat - 48)) (m + 1) e) := Lib.hid ⟨d3, by omega, .inl (by rcases i3 with ⟨h1, h2, h3⟩ | h <;> omega)⟩
              have b8 : decide (0 ≤ p) = false := decide_eq_false (by omega)
              clear hg hp i1 i2 i3 HG HI hd hc b12 hm d3 hpt
              go_wp2
              go_roundw
              case rel => exact ⟨k + 1, p, 10 * n + (s[k].toNat - 48), m + 1, e, rfl, by rw [d2], by rw [HT.out], by go_num, by go_num, by omega, HG2, HI2, trivial⟩
              case measure => simp [intOf]; omega
            · rw [if_neg hpt] at hg
              have HG2 := Lib.hid hg
              have HI2 : Hid (InvF (k + 1) p (10 * n + (s[k].toNat - 48)) (m + 1) (e + 1)) := Lib.hid ⟨d3, by omega, .inr (by rcases i3 with h | ⟨h1, h2, h3⟩ <;> omega)⟩
              have b8 : decide (0 ≤ p) = true := decide_eq_true (by omega)
              have d6 := step_e e (by rcases i3 with h | ⟨h1, h2, h3⟩ <;> omega)
              obtain ⟨T2, hT2⟩ : ∃ T : Int, T = ((10 ^ (e + 1) : Nat) : Int) := ⟨_, rfl⟩
              rw [← HT.out, ← hT2] at d6
              have HT2 := Lib.hid hT2
              clear hg hp i1 i2 i3 HG HI hd hc b12 hm d3 hpt hT2
              go_wp2
              go_roundw
              case rel => exact ⟨k + 1, p, 10 * n + (s[k].toNat - 48), m + 1, e + 1, rfl, by rw [d2], by rw [← HT2.out, d6], by go_num, by go_num, by omega, HG2, HI2, trivial⟩
              case measure => simp [intOf]; omega
        · rw [fgo_bad hp hd] at hg
          obtain rfl : r = false := H0.out hg.symm
          have hd2 : ¬ (48 ≤ s[k].toNat ∧ s[k].toNat ≤ 57) := hd
          by_cases h1 : s[k].toNat < 48
          · have b5 : decide ((s[k].toNat : Int) < 48) = true := decide_eq_true (by omega)
            clear hg hp i1 i2 i3 HG HI hd hd2 h1
            rcases b12 with b1 | ⟨b1, b2⟩
            · go_wp2
              go_returns
              exact ⟨rfl, by go_grown⟩
            · go_wp2
              go_returns
              exact ⟨rfl, by go_grown⟩
          · have b5 : decide ((s[k].toNat : Int) < 48) = false := decide_eq_false (by omega)
            have b6 : decide ((57 : Int) < (s[k].toNat : Int)) = true := decide_eq_true (by omega)
            have b1 : ((s[k].toNat : Int) == 46) = false := by simp; omega
            clear hg hp i1 i2 i3 HG HI hd hd2 h1 b12
            go_wp2
            go_returns
            exact ⟨rfl, by go_grown⟩
    · obtain rfl : k = s.size := by omega
      have hg := HG.out
      rw [List.drop_of_length_le (by rw [size_list]; omega), fgo] at hg
      obtain ⟨f1, f2⟩ := H1.out _ hg.symm
      unfold Fit at f1
      simp only at f1 f2
      have hpk : p < (s.size : Int) := by rcases i3 with h | h <;> omega
      have w1 : wrap64 ((s.size : Int) - 1) = (s.size : Int) - 1 := wrap_id (by unfold I64; omega)
      by_cases p1 : p < 1
      · obtain rfl : r = false := by
          cases r with
          | false => rfl
          | true => exact absurd p1 (f1.1 rfl).1
        have b1 : decide (p < 1) = true := decide_eq_true p1
        clear hg f1 f2 i1 i2 i3 HG HI p1 hpk hk hlt
        go_wp2
        go_returns
        exact ⟨rfl, by go_grown⟩
      · have b1 : decide (p < 1) = false := decide_eq_false p1
        by_cases p2 : p = (s.size : Int) - 1
        · obtain rfl : r = false := by
            cases r with
            | false => rfl
            | true => exact absurd p2 (f1.1 rfl).2.1
          have b2 : (p == (s.size : Int) - 1) = true := by simp [p2]
          clear hg f1 f2 i1 i2 i3 HG HI p1 hpk hk hlt p2
          go_wp2
          go_returns
          exact ⟨rfl, by go_grown⟩
        · have b2 : (p == (s.size : Int) - 1) = false := by simp [p2]
          have hpos : 0 < s.size := by omega
          have h00 : (0 : Int) ≤ 0 ∧ (0 : Int) < (s.size : Int) := by omega
          rw [head_list s hpos] at f1
          by_cases p3 : 1 < p ∧ s[0].toNat = 48
          · obtain rfl : r = false := by
              cases r with
              | false => rfl
              | true => exact absurd p3 (f1.1 rfl).2.2
            have b3 : decide (1 < p) = true := decide_eq_true p3.1
            have b4 : ((s[0].toNat : Int) == 48) = true := by simp; omega
            have b5 : (s[0].toNat : Int) = 48 := by omega
            clear hg f1 f2 i1 i2 i3 HG HI p1 hpk hk hlt p2 p3
            go_wp2
            go_returns
            exact ⟨rfl, by go_grown⟩
          · obtain rfl : r = true := f1.2 ⟨p1, p2, p3⟩
            obtain ⟨rfl, rfl, hn15, he15⟩ := f2 rfl
            have b34 : decide (1 < p) = false ∨ decide (1 < p) = true ∧ ((s[0].toNat : Int) == 48) = false := by
              by_cases h1 : 1 < p
              · right
                refine ⟨decide_eq_true h1, ?_⟩
                simp
                intro h
                exact p3 ⟨h1, by omega⟩
              · exact .inl (decide_eq_false h1)
            have hq := (q_some hn15 he15).1
            rw [← HQ.out, ← HT.out] at hq
            have HQ2 : ∀ w, (binOp .quo 71 (.float .f64 (floatOfInt .f64 (N : Int))) (.float .f64 (floatOfInt .f64 T))).run Tryz.prog w = .ok (.float .f64 Q) w := fun w => run_float_arith w .quo 71 .f64 _ _ _ hq
            have HB := Lib.hid fun w => tobits_r Q w
            clear hg f1 f2 i1 i2 i3 HG HI p1 hpk hk hlt p2 p3 hq hn15 he15
            rcases b34 with b3 | ⟨b3, b4⟩
            · go_wp2_with (first | (go_at_call 51; refine (HB.out _).mono ?_; rintro en w2 ⟨rfl, rfl⟩; clear HB))
              go_returns
              exact ⟨rfl, by go_grown⟩
            · go_wp2_with (first | (go_at_call 51; refine (HB.out _).mono ?_; rintro en w2 ⟨rfl, rfl⟩; clear HB))
              go_returns
              exact ⟨rfl, by go_grown⟩
end Go.Proofs.YtehakhplglhkdaaGreatDoor
