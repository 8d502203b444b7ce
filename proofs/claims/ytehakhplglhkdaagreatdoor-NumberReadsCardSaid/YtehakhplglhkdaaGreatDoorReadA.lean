/- number.digits of any text; guiseref6.Int of any text. Condition: the text is not great. -/
import Derived.Test.YtehakhplglhkdaaGreatDoorReadPlain
import Derived.Test.YtehakhplglhkdaaGreatDoorUnaryF
import Derived.Test.YtehakhplglhkdaaGreatDoorRingPlain
namespace Go.Proofs.YtehakhplglhkdaaGreatDoor
set_option linter.unusedVariables false
open Go.RowKit

theorem get_list (s : ByteArray) (k : Nat) (h : k < s.size) : s.data.toList[k]'(by rw [Array.length_toList]; exact h) = s[k] := by
  rw [Array.getElem_toList]; rfl
theorem size_list (s : ByteArray) : s.data.toList.length = s.size := Array.length_toList
theorem mem_get {s : ByteArray} {P : UInt8 → Prop} (h : ∀ (i : Nat) (hi : i < s.size), P s[i]) : ∀ c ∈ s.data.toList, P c := fun c hc => by
  obtain ⟨i, hi, rfl⟩ := List.getElem_of_mem hc
  rw [size_list] at hi
  rw [get_list s i hi]
  exact h i hi
theorem get_mem {s : ByteArray} {P : UInt8 → Prop} (h : ∀ c ∈ s.data.toList, P c) (i : Nat) (hi : i < s.size) : P s[i] := by
  rw [← get_list s i hi]
  exact h _ (List.getElem_mem _)
theorem head_get : ∀ (l : List UInt8) (h : 0 < l.length), l.headD 0 = l[0]
  | [], h => absurd h (by simp)
  | c :: r, _ => rfl
theorem head_list (s : ByteArray) (h : 0 < s.size) : s.data.toList.headD 0 = s[0] := by
  rw [← get_list s 0 h]
  exact head_get _ _
set_option maxRecDepth 200000 in
set_option maxHeartbeats 2000000 in
theorem digits_any (s : ByteArray) (r : Bool) (w : World) (hsz : s.size ≤ 9223372036854775806) (hr : r = true ↔ Dig s.data.toList) :
    Calls Tryz.prog 55 #[.string s] w fun e w' => e = .returned (.bool r) ∧ w' = w := by
  have HR := Lib.hid hr
  clear hr
  have h0 : (0 : Int) ≤ 0 ∧ (0 : Int) < (s.size : Int) ∨ s.size = 0 := by omega
  have HZ := Lib.hid h0
  clear h0
  go_enter Tryz.func55, Tryz.ntmps55
  go_wp2
  go_loopw [2, 6] (fun z v wr => ∃ k : Nat, v = .int .i64 k ∧ k ≤ s.size ∧ Hid (∀ (i : Nat) (hi : i < s.size), i < k → isD s[i]) ∧ Hid (wr = w)) (fun _ v _ => s.size - (intOf v).toNat)
  case atStart => exact ⟨0, rfl, Nat.zero_le _, fun i _ h => absurd h (by omega), rfl⟩
  case round =>
    obtain ⟨k, rfl, hk, HD, H⟩ := hrel
    obtain rfl := H.out
    clear H
    by_cases hlt : k < s.size
    · have hi : (0 : Int) ≤ (k : Int) ∧ (k : Int) < (s.size : Int) := by omega
      by_cases hd : isD s[k]
      · have HD2 : Hid (∀ (i : Nat) (hi : i < s.size), i < k + 1 → isD s[i]) := Lib.hid (fun i hi' h => by
          by_cases e : i = k
          · subst e; exact hd
          · exact HD.out i hi' (by omega))
        unfold isD at hd
        have b1 : decide ((s[k].toNat : Int) < 48) = false := decide_eq_false (by omega)
        have b2 : decide ((57 : Int) < (s[k].toNat : Int)) = false := decide_eq_false (by omega)
        clear hd
        go_wp2
        go_roundw
        case rel => exact ⟨k + 1, by go_num, by omega, HD2, trivial⟩
        case measure => simp [intOf]; omega
      · obtain rfl : r = false := by
          cases r with
          | false => rfl
          | true => exact absurd (get_mem (HR.out.1 rfl).1 k hlt) hd
        unfold isD at hd
        by_cases h1 : s[k].toNat < 48
        · have b1 : decide ((s[k].toNat : Int) < 48) = true := decide_eq_true (by omega)
          clear hd h1
          go_wp2
          go_ret
          exact ⟨rfl, rfl⟩
        · have b1 : decide ((s[k].toNat : Int) < 48) = false := decide_eq_false (by omega)
          have b2 : decide ((57 : Int) < (s[k].toNat : Int)) = true := decide_eq_true (by omega)
          clear hd h1
          go_wp2
          go_ret
          exact ⟨rfl, rfl⟩
    · obtain rfl : k = s.size := by omega
      have hall : ∀ c ∈ s.data.toList, isD c := mem_get (fun i hi => HD.out i hi hi)
      by_cases h2 : s.size = 0
      · obtain rfl : r = false := by
          cases r with
          | false => rfl
          | true =>
            have := (HR.out.1 rfl).2.1
            exact absurd (List.eq_nil_of_length_eq_zero (by rw [size_list]; exact h2)) this
        have hz : (s.toList == []) = true := by
          rw [ByteArray.toList_eq, List.eq_nil_of_length_eq_zero (show s.data.toList.length = 0 by rw [size_list]; exact h2)]
          rfl
        clear hall HD
        go_wp2
        go_ret
        exact ⟨by simp [hz], rfl⟩
      · have hne : s.data.toList ≠ [] := fun e => h2 (by rw [← size_list, e]; rfl)
        have hz : (s.toList == []) = false := by rw [ByteArray.toList_eq]; simpa using hne
        have h0 := HZ.out.resolve_right h2
        by_cases h3 : s.size = 1
        · obtain rfl : r = true := HR.out.2 ⟨hall, hne, .inl (by rw [size_list]; exact h3)⟩
          have e1 : (s.size : Int) = 1 := by omega
          clear hall HD hne
          go_wp2
          go_ret
          exact ⟨by simp, rfl⟩
        · have hpos : 0 < s.size := by omega
          have b4 : ((s.size : Int) == 1) = false := by simp; omega
          have b5 : ¬ (s.size : Int) = 1 := by omega
          by_cases h4 : s[0].toNat = 48
          · obtain rfl : r = false := by
              cases r with
              | false => rfl
              | true =>
                rcases (HR.out.1 rfl).2.2 with h | h
                · rw [size_list] at h; omega
                · rw [head_list s hpos] at h; omega
            have b3 : ((s[0].toNat : Int) != 48) = false := by simp; omega
            clear hall HD hne h4 h3
            go_wp2
            go_ret
            exact ⟨by simp [b3, hz], rfl⟩
          · obtain rfl : r = true := HR.out.2 ⟨hall, hne, .inr (by rw [head_list s hpos]; exact h4)⟩
            have b3 : ((s[0].toNat : Int) != 48) = true := by simp; omega
            clear hall HD hne h4 h3
            go_wp2
            go_ret
            exact ⟨by simp [b3, hz], rfl⟩
/-- guiseref6.Int: what comes out. -/
def intOut (r : Bool) (v : Nat) : Value := .tuple #[if r then (mk 2 ⟨#[105, 110, 116]⟩ (v : Int) 0 ⟨#[]⟩).val else (mk 0 ⟨#[]⟩ 0 0 ⟨#[]⟩).val, .bool r]
theorem dig_facts (c v : Nat) (h : 48 ≤ c ∧ c ≤ 57) (hv : v < 9223372036854775808) :
    IntKind.u8.wrap ((c : Int) - 48) = ((c - 48 : Nat) : Int) ∧ wrap64 ((c - 48 : Nat) : Int) = ((c - 48 : Nat) : Int) ∧ wrap64 (9223372036854775807 - ((c - 48 : Nat) : Int)) = 9223372036854775807 - ((c - 48 : Nat) : Int) ∧ wrap64 ((9223372036854775807 - ((c - 48 : Nat) : Int)).tdiv 10) = (9223372036854775807 - ((c - 48 : Nat) : Int)) / 10 := by
  have e : (9223372036854775807 - ((c - 48 : Nat) : Int)).tdiv 10 = (9223372036854775807 - ((c - 48 : Nat) : Int)) / 10 := Int.tdiv_eq_ediv_of_nonneg (by omega)
  refine ⟨?_, wrap_id (by unfold I64; omega), wrap_id (by unfold I64; omega), ?_⟩
  · show ((c : Int) - 48) % 256 = _
    omega
  · rw [e]; exact wrap_id (by unfold I64; omega)
theorem ten_facts (c v : Nat) (h : 48 ≤ c ∧ c ≤ 57) (hv : 10 * v + (c - 48) < 9223372036854775808) :
    decide ((9223372036854775807 - ((c - 48 : Nat) : Int)) / 10 < (v : Int)) = false ∧ wrap64 (10 * (v : Int)) = 10 * (v : Int) ∧ wrap64 (10 * (v : Int) + ((c - 48 : Nat) : Int)) = ((10 * v + (c - 48) : Nat) : Int) := by
  refine ⟨decide_eq_false (by omega), wrap_id (by unfold I64; omega), ?_⟩
  rw [wrap_id (by unfold I64; omega)]
  omega
theorem over_fact (c v : Nat) (h : 48 ≤ c ∧ c ≤ 57) (hv : ¬ 10 * v + (c - 48) < 9223372036854775808) : decide ((9223372036854775807 - ((c - 48 : Nat) : Int)) / 10 < (v : Int)) = true := decide_eq_true (by omega)
set_option maxRecDepth 200000 in
set_option maxHeartbeats 4000000 in
theorem refint_any (s : ByteArray) (r : Bool) (w : World) (hsz : s.size ≤ 9223372036854775806) (hr : r = true ↔ RefI s.data.toList) :
    Calls Tryz.prog 25 #[.string s] w fun e w' => e = .returned (intOut r (spell s.data.toList 0)) ∧ Below w.heap.size w w' := by
  have HR := Lib.hid hr
  clear hr
  have hl := size_list s
  unfold RefI at HR
  rw [hl] at HR
  clear hl
  generalize hV : spell s.data.toList 0 = V at *
  have HV := Lib.hid hV
  clear hV
  by_cases z : s.size < 1
  · obtain rfl : r = false := by
      cases r with
      | false => rfl
      | true => have := (HR.out.1 rfl).1; omega
    have b1 : decide ((s.size : Int) < 1) = true := decide_eq_true (by omega)
    clear z
    go_enter Tryz.func25, Tryz.ntmps25
    go_wp2
    go_returns
    exact ⟨rfl, by go_grown⟩
  · have b1 : decide ((s.size : Int) < 1) = false := decide_eq_false (by omega)
    by_cases g : 19 < s.size
    · obtain rfl : r = false := by
        cases r with
        | false => rfl
        | true => have := (HR.out.1 rfl).2.1; omega
      have b2 : decide ((19 : Int) < (s.size : Int)) = true := decide_eq_true (by omega)
      clear z g
      go_enter Tryz.func25, Tryz.ntmps25
      go_wp2
      go_returns
      exact ⟨rfl, by go_grown⟩
    · have b2 : decide ((19 : Int) < (s.size : Int)) = false := decide_eq_false (by omega)
      have hpos : 0 < s.size := by omega
      have h0 : (0 : Int) ≤ 0 ∧ (0 : Int) < (s.size : Int) := by omega
      by_cases n : 1 < s.size ∧ s[0].toNat = 48
      · obtain rfl : r = false := by
          cases r with
          | false => rfl
          | true =>
            have := (HR.out.1 rfl).2.2.1
            rw [head_list s hpos] at this
            exact absurd n this
        have b3 : decide ((1 : Int) < (s.size : Int)) = true := decide_eq_true (by omega)
        have b4 : ((s[0].toNat : Int) == 48) = true := by simp; omega
        have b5 : (s[0].toNat : Int) = 48 := by omega
        clear z g n
        go_enter Tryz.func25, Tryz.ntmps25
        go_wp2
        go_returns
        exact ⟨rfl, by go_grown⟩
      · have HN := Lib.hid n
        have b34 : (decide ((1 : Int) < (s.size : Int)) = false) ∨ (decide ((1 : Int) < (s.size : Int)) = true ∧ ((s[0].toNat : Int) == 48) = false) := by
          by_cases h1 : 1 < s.size
          · right
            refine ⟨decide_eq_true (by omega), ?_⟩
            simp
            intro e
            exact n ⟨h1, by omega⟩
          · left; exact decide_eq_false (by omega)
        have HZ : Hid (1 ≤ s.size ∧ s.size ≤ 19) := Lib.hid (by omega)
        have h19 : s.size ≤ 19 := by omega
        clear z g n
        go_enter Tryz.func25, Tryz.ntmps25
        have loop : True := trivial
        rcases b34 with b3 | ⟨b3, b4⟩
        all_goals
          go_wp2
          go_loopw [3, 4, 5, 6] (fun q n i d wr => ∃ k v : Nat, n = .int .i64 v ∧ i = .int .i64 k ∧ k ≤ s.size ∧ Hid (v = spell (s.data.toList.take k) 0) ∧ Hid (v < 9223372036854775808) ∧ Hid (∀ (i : Nat) (hi : i < s.size), i < k → isD s[i]) ∧ Hid (wr = w.alloc (.cells [.int .i64 0, .string ⟨#[]⟩, .int .i64 0, .int .u64 0, .string ⟨#[]⟩, .int .i64 0, .int .i64 0, .int .i64 0, .int .i64 0, .slice none 0 0, .slice none 0 0].toArray 28))) (fun _ _ i _ _ => s.size - (intOf i).toNat)
          case atStart => exact ⟨0, 0, rfl, rfl, Nat.zero_le _, rfl, Lib.hid (by omega), fun i _ h => absurd h (by omega), rfl⟩
          case round =>
            obtain ⟨k, v, rfl, rfl, hk, HS, HL, HD, H⟩ := hrel
            have hw := H.out
            subst hw
            clear H
            by_cases hlt : k < s.size
            · have hi : (0 : Int) ≤ (k : Int) ∧ (k : Int) < (s.size : Int) := by omega
              by_cases hd : isD s[k]
              · have HD2 : Hid (∀ (i : Nat) (hi : i < s.size), i < k + 1 → isD s[i]) := Lib.hid (fun i hi' h => by
                  by_cases e : i = k
                  · subst e; exact hd
                  · exact HD.out i hi' (by omega))
                have hS2 : spell (s.data.toList.take (k + 1)) 0 = 10 * v + (s[k].toNat - 48) := by
                  rw [spell_take (by rw [size_list]; exact hlt), ← HS.out, get_list s k hlt]
                have hle := spell_take_le s.data.toList (k + 1) 0
                rw [HV.out, hS2] at hle
                unfold isD at hd
                have b5 : decide ((s[k].toNat : Int) < 48) = false := decide_eq_false (by omega)
                have b6 : decide ((57 : Int) < (s[k].toNat : Int)) = false := decide_eq_false (by omega)
                obtain ⟨d1, d2, d3, d4⟩ := dig_facts s[k].toNat v hd HL.out
                by_cases ho : 10 * v + (s[k].toNat - 48) < 9223372036854775808
                · obtain ⟨t1, t2, t3⟩ := ten_facts s[k].toNat v hd ho
                  have HS2 : Hid (10 * v + (s[k].toNat - 48) = spell (s.data.toList.take (k + 1)) 0) := hS2.symm
                  have HO := Lib.hid ho
                  clear hd hle hS2 ho
                  go_wp2
                  go_roundw
                  case rel => exact ⟨k + 1, 10 * v + (s[k].toNat - 48), by rw [t3], by go_num, by omega, HS2, HO, HD2, trivial⟩
                  case measure => simp [intOf]; omega
                · have t1 := over_fact s[k].toNat v hd ho
                  obtain rfl : r = false := by
                    cases r with
                    | false => rfl
                    | true => have := (HR.out.1 rfl).2.2.2.2; omega
                  clear hd hle hS2 ho
                  go_wp2
                  go_returns
                  exact ⟨rfl, by go_grown⟩
              · obtain rfl : r = false := by
                  cases r with
                  | false => rfl
                  | true => exact absurd (get_mem (HR.out.1 rfl).2.2.2.1 k hlt) hd
                unfold isD at hd
                by_cases h1 : s[k].toNat < 48
                · have b5 : decide ((s[k].toNat : Int) < 48) = true := decide_eq_true (by omega)
                  clear hd h1
                  go_wp2
                  go_returns
                  exact ⟨rfl, by go_grown⟩
                · have b5 : decide ((s[k].toNat : Int) < 48) = false := decide_eq_false (by omega)
                  have b6 : decide ((57 : Int) < (s[k].toNat : Int)) = true := decide_eq_true (by omega)
                  clear hd h1
                  go_wp2
                  go_returns
                  exact ⟨rfl, by go_grown⟩
            · obtain rfl : k = s.size := by omega
              have hv := HS.out
              rw [List.take_of_length_le (by rw [size_list]; omega), HV.out] at hv
              subst hv
              obtain rfl : r = true := HR.out.2 ⟨HZ.out.1, HZ.out.2, by
                rintro ⟨h1, h2⟩
                rw [head_list s (by omega)] at h2
                exact HN.out ⟨h1, h2⟩, mem_get (fun i hi => HD.out i hi hi), HL.out⟩
              clear hlt hk
              go_wp2
              go_returns
              exact ⟨rfl, by go_grown⟩
end Go.Proofs.YtehakhplglhkdaaGreatDoor
