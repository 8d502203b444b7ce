/- NumberReads of any text. Conditions: the text is not great; what strconv reads of the package's variables. -/
import Derived.Test.YtehakhplglhkdaaGreatDoorReadLaw
namespace Go.Proofs.YtehakhplglhkdaaGreatDoor
set_option linter.unusedVariables false
open Go.RowKit

theorem bool_of (P : Prop) : ∃ r : Bool, (r = true ↔ P) := by
  by_cases h : P
  · exact ⟨true, fun _ => h, fun _ => rfl⟩
  · exact ⟨false, fun e => by simp at e, fun e => absurd e h⟩
theorem ints_two (s : ByteArray) (hs : s.size ≤ 140737488355328) : ∃ (k n f : Int) (t : ByteArray) (r : Bool),
    (∀ W, Glob W → GlobE W → Calls Tryz.prog 24 #[.string s] W fun e w' => e = .returned (.tuple #[(mk k t n f ⟨#[]⟩).val, .bool r]) ∧ Below W.heap.size W w') ∧
    (∀ W, Glob W → GlobE W → Calls Tryz.prog 25 #[.string s] W fun e w' => e = .returned (.tuple #[(mk k t n f ⟨#[]⟩).val, .bool r]) ∧ Below W.heap.size W w') := by
  obtain ⟨r, hr⟩ := bool_of (Dig s.data.toList ∧ spell s.data.toList 0 < 9223372036854775808)
  have hr2 := hr.trans (refI_iff s.data.toList).symm
  cases r with
  | true => exact ⟨2, (spell s.data.toList 0 : Int), 0, ⟨#[105, 110, 116]⟩, true, fun W _ hE => numint_any s true W hE (by omega) hr, fun W _ _ => refint_any s true W (by omega) hr2⟩
  | false => exact ⟨0, 0, 0, ⟨#[]⟩, false, fun W _ hE => numint_any s false W hE (by omega) hr, fun W _ _ => refint_any s false W (by omega) hr2⟩
theorem has_point (l : List UInt8) : (∀ c ∈ l, c.toNat ≠ 46) ∨ ∃ a b, l = a ++ (46 : UInt8) :: b ∧ ∀ c ∈ a, c.toNat ≠ 46 := by
  by_cases h : (46 : UInt8) ∈ l
  · obtain ⟨a, b, e, hn⟩ := List.eq_append_cons_of_mem h
    refine .inr ⟨a, b, e, fun c hc e46 => hn ?_⟩
    have : c = 46 := UInt8.toNat_inj.1 (by rw [e46]; rfl)
    exact this ▸ hc
  · refine .inl fun c hc e46 => h ?_
    have : c = 46 := UInt8.toNat_inj.1 (by rw [e46]; rfl)
    exact this ▸ hc
/-- The two floats. -/
def FloTwo (s : ByteArray) : Prop := ∃ (k n f : Int) (t : ByteArray) (r : Bool),
    (∀ W, Glob W → GlobE W → Calls Tryz.prog 26 #[.string s] W fun e w' => e = .returned (.tuple #[(mk k t n f ⟨#[]⟩).val, .bool r]) ∧ Below W.heap.size W w') ∧
    (∀ W, Glob W → GlobE W → Calls Tryz.prog 27 #[.string s] W fun e w' => e = .returned (.tuple #[(mk k t n f ⟨#[]⟩).val, .bool r]) ∧ Below W.heap.size W w')
theorem flo_no (s : ByteArray) (h1 : ∀ W, Calls Tryz.prog 26 #[.string s] W fun e w' => e = .returned (floOut false 0) ∧ Below W.heap.size W w') (h2 : ∀ W, Calls Tryz.prog 27 #[.string s] W fun e w' => e = .returned (floOut false (qbits 0 0)) ∧ Below W.heap.size W w') : FloTwo s :=
  ⟨0, 0, 0, ⟨#[]⟩, false, fun W _ _ => h1 W, fun W _ _ => h2 W⟩
theorem floats_none (s : ByteArray) (hs : s.size ≤ 140737488355328) (h : ∀ c ∈ s.data.toList, c.toNat ≠ 46) : FloTwo s := by
  have hi := index_none _ h
  refine flo_no s (fun W => nf_F1 s s ⟨#[]⟩ W hs (by show (0 : Nat) ≤ _; omega) (fun w => cut_none s w (by omega) hi)) (fun W => reffloat_any s false 0 0 W (by omega) (fun _ => rfl) (fun F hF => ?_))
  refine ⟨⟨fun e => by simp at e, fun hfit => ?_⟩, fun e => by simp at e⟩
  rcases fgo_none _ h with hn | ⟨F', hF', hp⟩
  · rw [hn] at hF; cases hF
  · rw [hF'] at hF
    have e2 := Option.some.inj hF
    exact absurd (show F.pt < 1 by rw [← e2, hp]; omega) hfit.1
section
variable (s : ByteArray) (a b : List UInt8)
theorem split_size (e : s.data.toList = a ++ (46 : UInt8) :: b) : s.size = a.length + 1 + b.length := by
  rw [← size_list, e]
  simp
  omega
theorem x_list (e : s.data.toList = a ++ (46 : UInt8) :: b) : (s.extract 0 a.length).data.toList = a := by
  rw [ext_front, e]; simp
theorem y_list (e : s.data.toList = a ++ (46 : UInt8) :: b) : (s.extract (a.length + 1) s.size).data.toList = b := by
  rw [ext_back, e, List.drop_append]
  simp
theorem at_get (k : Nat) (h : k < s.size) (e : s.data.toList = a ++ (46 : UInt8) :: b) : s[k] = (a ++ (46 : UInt8) :: b)[k]'(by rw [← e, size_list]; exact h) := by
  rw [← get_list s k h]
  simp only [e]
/-- What the first digits spell. -/
def sp (j : Nat) : Nat := spell ((a ++ b).take j) 0
theorem sp_step {j : Nat} (h : j < (a ++ b).length) : sp a b (j + 1) = 10 * sp a b j + ((a ++ b)[j].toNat - 48) := spell_take h 0
theorem sp_all : sp a b (a.length + b.length) = spell b (spell a 0) := by
  unfold sp
  rw [List.take_of_length_le (by simp), spell_append]
theorem sp_lt (hd : ∀ c ∈ a ++ b, isD c) (hl : a.length + b.length ≤ 15) (j : Nat) (hj : j ≤ a.length + b.length) : sp a b j < 1000000000000000 := by
  have h1 := spell_lt ((a ++ b).take j) 0 (fun c hc => hd c (List.mem_of_mem_take hc))
  have h2 : ((a ++ b).take j).length ≤ 15 := by rw [List.length_take, List.length_append]; omega
  have h3 := ten_le h2
  unfold sp
  omega
end
theorem floats_yes (s : ByteArray) (a b : List UInt8) (hs : s.size ≤ 140737488355328) (e : s.data.toList = a ++ (46 : UInt8) :: b) (ha : ∀ c ∈ a, c.toNat ≠ 46) (hf : Flo a b) : FloTwo s := by
  have hsz := split_size s a b e
  obtain ⟨f1, f2, f3, f4, f5, f6⟩ := hf
  have hal : 0 < a.length := List.length_pos_iff.2 f4
  have hbl : 0 < b.length := List.length_pos_iff.2 f6
  have hall : ∀ c ∈ a ++ b, isD c := fun c hc => by rcases List.mem_append.1 hc with h | h; exact f1 c h; exact f2 c h
  have hlab : (a ++ b).length = a.length + b.length := by simp
  have hN : spell b (spell a 0) < 1000000000000000 := by
    rw [← sp_all]; exact sp_lt a b hall f3 _ (Nat.le_refl _)
  have hx := x_list s a b e
  have hy := y_list s a b e
  have hxs : (s.extract 0 a.length).size = a.length := by rw [← size_list, hx]
  have hys : (s.extract (a.length + 1) s.size).size = b.length := by rw [← size_list, hy]
  have hi := index_split a b 46 rfl ha
  rw [← e] at hi
  obtain ⟨hq1, hq2⟩ := q_some hN (show b.length < 15 by omega)
  have hg : ∀ k (h : k < s.size) (hk : k < a.length), s[k] = (a ++ b)[k]'(by rw [hlab]; omega) := fun k h hk => by
    rw [at_get s a b k h e, List.getElem_append_left hk, List.getElem_append_left hk]
  have hdot : ∀ k (h : k < s.size), k = a.length → s[k].toNat = 46 := fun k h hk => by
    subst hk
    rw [at_get s a b _ h e, List.getElem_append_right (Nat.le_refl _)]
    simp
  have hg2 : ∀ k (h : k < s.size), a.length < k → s[k] = (a ++ b)[k - 1]'(by rw [hlab]; omega) := fun k h hk => by
    rw [at_get s a b k h e, List.getElem_append_right (by omega), List.getElem_append_right (by omega)]
    obtain ⟨m, hm⟩ : ∃ m, k = a.length + 1 + m := ⟨k - a.length - 1, by omega⟩
    subst hm
    have e1 : a.length + 1 + m - a.length = m + 1 := by omega
    have e2 : a.length + 1 + m - 1 - a.length = m := by omega
    simp only [e1, e2, List.getElem_cons_succ]
  have hd1 : ∀ (k : Nat) (h : k < s.size), k < a.length → isD s[k] ∧ sp a b (k + 1) = 10 * sp a b k + (s[k].toNat - 48) := fun k h hk => by
    rw [hg k h hk]
    exact ⟨hall _ (List.getElem_mem _), sp_step a b _⟩
  have hd2 : ∀ (k : Nat) (h : k < s.size), a.length < k → isD s[k] ∧ sp a b k = 10 * sp a b (k - 1) + (s[k].toNat - 48) := fun k h hk => by
    rw [hg2 k h hk]
    refine ⟨hall _ (List.getElem_mem _), ?_⟩
    have := sp_step a b (j := k - 1) (by rw [hlab]; omega)
    rwa [show k - 1 + 1 = k by omega] at this
  have hpos : 0 < s.size := by omega
  have hhead : s[0] = (a ++ b)[0]'(by rw [hlab]; omega) := hg 0 hpos hal
  have hz : ∀ h : 0 < s.size, s[0].toNat = 48 → a.length = 1 := fun h h48 => by
    rcases f5 with h1 | h1
    · exact h1
    · rw [hhead, List.getElem_append_left hal, ← head_get a hal] at h48
      exact absurd h48 h1
  have hR : ∀ w, Calls Tryz.prog 127 #[.string s] w fun x w' => x = .returned (.tuple #[.int .u64 (spell b (spell a 0) : Nat), .int .i64 (if spell b (spell a 0) = 0 then 0 else -(b.length : Int)), .bool false, .bool false, .bool false, .int .i64 s.size, .bool true]) ∧ w' = w := fun w => by
    have := readFloat_any s a.length b.length (sp a b) w hsz hal hbl hz f3 rfl (fun j hj => sp_lt a b hall f3 j hj) hdot hd1 hd2
    rw [sp_all] at this
    exact this
  have hP : ∀ w, Glob w → Calls Tryz.prog 57 #[.string s, .int .i64 64] w fun e w' => e = .returned (.tuple #[.float .f64 (qbits (spell b (spell a 0)) b.length), .nilIface]) ∧ w' = w := fun w hG => parse_any s _ b.length w hG hN (by omega) hbl hpos (hd1 0 hpos hal).1 hR
  refine ⟨3, 0, (qbits (spell b (spell a 0)) b.length : Int), ⟨#[102, 108, 111, 97, 116]⟩, true, fun W hG _ => ?_, fun W _ _ => ?_⟩
  · have hDa : Dig a := ⟨f1, f4, f5⟩
    refine nf_T s _ _ W (by rw [hxs]; omega) (by rw [hys]; omega) (fun w => cut_some s a.length w (by omega) (by omega) hi) (by rw [hxs, hys]; exact decide_eq_false (by omega)) (fun w => digits_any _ true w (by rw [hxs]; omega) ⟨fun _ => by rw [hx]; exact hDa, fun _ => rfl⟩) (fun w => digits_any _ true w (by rw [ByteArray.size_append, hys]; show 1 + b.length ≤ _; omega) ⟨fun _ => by rw [one_more, hy, dig_one]; exact f2, fun _ => rfl⟩) ?_ _ hq2 hG hP
    rw [ByteArray.toList_eq, hy]
    simpa using f6
  · refine reffloat_any s true (spell b (spell a 0)) b.length W (by omega) (fun h => ?_) (fun F hF => ?_)
    · rw [e, fgo_split a b 46 rfl ha, if_pos ⟨f1, f2, f3⟩] at h
      cases h
    · rw [e, fgo_split a b 46 rfl ha, if_pos ⟨f1, f2, f3⟩] at hF
      cases hF
      refine ⟨⟨fun _ => ?_, fun _ => rfl⟩, fun _ => ⟨rfl, rfl, hN, by omega⟩⟩
      have hl : s.size = (a ++ (46 : UInt8) :: b).length := by rw [← e, size_list]
      rw [hl, e]
      exact (flo_fit a b 46).2 ⟨f4, f5, f6⟩
theorem floats_no (s : ByteArray) (a b : List UInt8) (hs : s.size ≤ 140737488355328) (e : s.data.toList = a ++ (46 : UInt8) :: b) (ha : ∀ c ∈ a, c.toNat ≠ 46) (hf : ¬ Flo a b) : FloTwo s := by
  have hsz := split_size s a b e
  have hx := x_list s a b e
  have hy := y_list s a b e
  have hxs : (s.extract 0 a.length).size = a.length := by rw [← size_list, hx]
  have hys : (s.extract (a.length + 1) s.size).size = b.length := by rw [← size_list, hy]
  have hi := index_split a b 46 rfl ha
  rw [← e] at hi
  have hc := fun w => cut_some s a.length w (by omega) (by omega) hi
  refine flo_no s (fun W => ?_) (fun W => reffloat_any s false 0 0 W (by omega) (fun _ => rfl) (fun F hF => ?_))
  · by_cases h15 : 15 < a.length + b.length
    · exact nf_F2 s _ _ W (by rw [hxs]; omega) (by rw [hys]; omega) hc (by rw [hxs, hys]; exact decide_eq_true (by omega))
    · have d15 : decide ((15 : Int) < ((s.extract 0 a.length).size : Int) + ((s.extract (a.length + 1) s.size).size : Int)) = false := by rw [hxs, hys]; exact decide_eq_false (by omega)
      by_cases hDa : Dig a
      · have c1 := fun w => digits_any (s.extract 0 a.length) true w (by rw [hxs]; omega) ⟨fun _ => by rw [hx]; exact hDa, fun _ => rfl⟩
        have hone : ((⟨#[49]⟩ : ByteArray) ++ s.extract (a.length + 1) s.size).size ≤ 9223372036854775806 := by rw [ByteArray.size_append, hys]; show 1 + b.length ≤ _; omega
        by_cases hDb : ∀ c ∈ b, isD c
        · have c2 := fun w => digits_any ((⟨#[49]⟩ : ByteArray) ++ s.extract (a.length + 1) s.size) true w hone ⟨fun _ => by rw [one_more, hy, dig_one]; exact hDb, fun _ => rfl⟩
          have hb0 : b = [] := by
            apply Classical.byContradiction
            intro hb
            exact hf ⟨hDa.1, hDb, by omega, hDa.2.1, hDa.2.2, hb⟩
          exact nf_F5 s _ _ W (by rw [hxs]; omega) (by rw [hys]; omega) hc d15 c1 c2 (by rw [ByteArray.toList_eq, hy, hb0]; rfl)
        · have c2 := fun w => digits_any ((⟨#[49]⟩ : ByteArray) ++ s.extract (a.length + 1) s.size) false w hone ⟨fun h => by simp at h, fun h => by rw [one_more, hy, dig_one] at h; exact absurd h hDb⟩
          exact nf_F4 s _ _ W (by rw [hxs]; omega) (by rw [hys]; omega) hc d15 c1 c2
      · have c1 := fun w => digits_any (s.extract 0 a.length) false w (by rw [hxs]; omega) ⟨fun h => by simp at h, fun h => by rw [hx] at h; exact absurd h hDa⟩
        exact nf_F3 s _ _ W (by rw [hxs]; omega) (by rw [hys]; omega) hc d15 c1
  · rw [e, fgo_split a b 46 rfl ha] at hF
    refine ⟨⟨fun h => by simp at h, fun hfit => ?_⟩, fun h => by simp at h⟩
    split at hF
    · rename_i hcond
      cases hF
      have hl : s.size = (a ++ (46 : UInt8) :: b).length := by rw [← e, size_list]
      rw [hl, e] at hfit
      obtain ⟨g1, g2, g3⟩ := (flo_fit a b 46).1 hfit
      exact absurd ⟨hcond.1, hcond.2.1, hcond.2.2, g1, g2, g3⟩ hf
    · cases hF
theorem numberReads_any (s : ByteArray) (w : World) (hs : s.size ≤ 140737488355328) (hG : Glob w) (hE : GlobE w) :
    Calls Tryz.prog 6 #[.string s] w fun e w' => e = .returned (.bool true) ∧ Below w.heap.size w w' := by
  obtain ⟨k1, n1, f1, t1, r1, h24, h25⟩ := ints_two s hs
  have h2 : FloTwo s := by
    rcases has_point s.data.toList with h | ⟨a, b, e, ha⟩
    · exact floats_none s hs h
    · by_cases hf : Flo a b
      · exact floats_yes s a b hs e ha hf
      · exact floats_no s a b hs e ha hf
  obtain ⟨k2, n2, f2, t2, r2, h26, h27⟩ := h2
  exact readLaw s k1 n1 f1 k2 n2 f2 t1 t2 r1 r2 w hG hE h24 h25 h26 h27
end Go.Proofs.YtehakhplglhkdaaGreatDoor
