/- More on the state: prefixes of rows, what is popped, what is left. No walk. -/
import Derived.Test.YtcalmojhdpagoaaDoorKeep2
namespace Go.Proofs.YtcalmojhdpagoaaDoor
set_option linter.unusedVariables false
open Go.RowKit

theorem nats_take {L : List Value} {n k : Nat} {l : List Nat} (h : L.take n = nats l) (hk : k ≤ n) : nats (l.take k) = L.take k := by
  have : (L.take n).take k = (nats l).take k := by rw [h]
  rw [List.take_take, Nat.min_eq_left hk] at this
  rw [this]
  simp [nats, List.map_take]
theorem own_take {w : World} {B e n k c : Nat} {A : Option Addr} {l : List Nat} (h : w.ownsRow B e 1 (.slice A n c) n (nats l)) (hk : k ≤ n) (hA : A ≠ none ∨ k = 0 ∧ n = 0) : w.ownsRow B e 1 (.slice A k c) (l.take k).length (nats (l.take k)) := by
  have hn : l.length = n := by have := h.1; simpa [nats] using this
  have hlen : (l.take k).length = k := by rw [List.length_take]; omega
  rw [hlen]
  refine ⟨by simp [nats]; omega, ?_⟩
  rcases h.2 with ⟨hv, h0⟩ | ⟨g, cap, cur, hv, hb, hg, hnc, hcm, hcs, htk⟩
  · injection hv with h1 h2 h3
    subst h1 h3
    rcases hA with hA | hA
    · exact absurd rfl hA
    · exact .inl ⟨by rw [hA.1], hA.1⟩
  · injection hv with h1 h2 h3
    subst h1 h3
    refine .inr ⟨g, c, cur, rfl, hb, hg, by omega, hcm, hcs, ?_⟩
    rw [Nat.mul_one] at htk ⊢
    exact (nats_take htk hk).symm

theorem own_addr {w : World} {B e size n c : Nat} {A : Option Addr} {xs : List Value} (h : w.ownsRow B e size (.slice A n c) n xs) (hn : 0 < n) : ∃ g, A = some ⟨g, 0, none⟩ ∧ n ≤ c ∧ c ≤ maxLen := by
  rcases h.2 with ⟨hv, h0⟩ | ⟨g, cap, cur, hv, hb, hg, hnc, hcm, _⟩
  · omega
  · injection hv with h1 h2 h3
    subst h1 h3
    exact ⟨g, rfl, hnc, hcm⟩
theorem own_cap {w : World} {B e size n c : Nat} {A : Option Addr} {xs : List Value} (h : w.ownsRow B e size (.slice A n c) n xs) : n ≤ c ∧ c ≤ maxLen ∧ (A ≠ none ∨ n = 0 ∧ c = 0) := by
  rcases h.2 with ⟨hv, h0⟩ | ⟨g, cap, cur, hv, hb, hg, hnc, hcm, _⟩
  · injection hv with h1 h2 h3
    subst h0 h3
    exact ⟨by omega, by simp [maxLen], .inr ⟨rfl, rfl⟩⟩
  · injection hv with h1 h2 h3
    subst h1 h3
    exact ⟨hnc, hcm, .inl (by simp)⟩
theorem own_nat {w : World} {B e n n' c g : Nat} {l : List Nat} (h : w.ownsRow B e 1 (.slice (some ⟨g, 0, none⟩) n c) n' (nats l)) {i x : Nat} (hi : l[i]? = some x) : w.cell? ⟨g, i, none⟩ = some (.int .i64 x) := by
  have := h.cells (g := g) rfl i (.int .i64 x) (by simp [nats, hi])
  rw [Addr.add_lit, Nat.zero_add] at this
  exact this
theorem own_rec {w : World} {B n n' c g : Nat} {l : List Rec} (h : w.ownsRow B 46 6 (.slice (some ⟨g, 0, none⟩) n c) n' (flatR l)) {i j : Nat} {r : Rec} (hi : l[i]? = some r) (hj : j < 6) {u : Value} (hu : r.cells[j]? = some u) : w.cell? ⟨g, i * 6 + j, none⟩ = some u := by
  have := h.cells (g := g) rfl (i * 6 + j) u (by rw [flatR_at l i j r hi hj]; exact hu)
  rw [Addr.add_lit, Nat.zero_add] at this
  exact this
theorem own_free {w : World} {B e size n n' c g o : Nat} {xs : List Value} (h : w.ownsRow B e size (.slice (some ⟨g, 0, none⟩) n c) n' xs) : w.frozen? ⟨g, o, none⟩ = false := by
  rcases h.2 with ⟨hv, h0⟩ | ⟨g', cap, cur, hv, hb, hg, _⟩
  · cases hv
  · injection hv with h1 h2 h3
    injection h1 with h1
    injection h1 with h1
    subst h1
    simp [World.frozen?, hg]

theorem Kept.setOwn {B0 B : Nat} {a w : World} {e size n n' c g o : Nat} {xs : List Value} (h : Kept B0 a w) (ho : w.ownsRow B e size (.slice (some ⟨g, 0, none⟩) n c) n' xs) (he : e = 3 ∨ e = 46 ∨ e = 39) (hB : B0 ≤ B) (hw : B ≤ w.heap.size) (u : Value) : Kept B0 a (w.setCell ⟨g, o, none⟩ u) :=
  h.grown ho he ⟨rfl, rfl, rfl, by simp [World.setCell], fun k hk hne => heap_setCell_other w _ k u (fun e => hne (by rw [e]; rfl))⟩ hB hw

theorem popL_more (all : List Rec) : ∀ (n : Nat) (l : List Nat), l.length ≤ n → popL all n l = pop all l
  | 0, l, h => by
    have : l = [] := List.eq_nil_of_length_eq_zero (by omega)
    subst this; rfl
  | n + 1, l, h => by
    by_cases hl : l = []
    · subst hl; simp [popL, pop]
    · obtain ⟨m, hm⟩ : ∃ m, l.length = m + 1 := ⟨l.length - 1, by have := List.length_pos_iff.2 hl; omega⟩
      unfold pop
      rw [hm]
      simp only [popL]
      split
      · split
        · have hd : l.dropLast.length = m := by simp; omega
          rw [popL_more all n l.dropLast (by omega), ← popL_more all m l.dropLast (by omega)]
        · rfl
      · rfl
theorem take_last {l : List Nat} {k x : Nat} (hx : l[k]? = some x) : (l.take (k + 1)).getLast? = some x ∧ (l.take (k + 1)).dropLast = l.take k := by
  have hk := (List.getElem?_eq_some_iff.1 hx).1
  rw [List.take_succ_eq_append_getElem hk]
  have : l[k] = x := (List.getElem?_eq_some_iff.1 hx).2
  simp [this]
theorem pop_left {all : List Rec} {l : List Nat} {k x : Nat} (hx : l[k]? = some x) (hl : lfAt all x = true) : pop all (l.take (k + 1)) = pop all (l.take k) := by
  obtain ⟨h1, h2⟩ := take_last hx
  have hk := (List.getElem?_eq_some_iff.1 hx).1
  have hlen : (l.take (k + 1)).length = k + 1 := by rw [List.length_take]; omega
  conv => lhs; unfold pop
  rw [hlen]
  simp only [popL, h1, hl, if_true, h2]
  exact popL_more all k _ (by rw [List.length_take]; omega)
theorem pop_stays {all : List Rec} {l : List Nat} {k x : Nat} (hx : l[k]? = some x) (hl : lfAt all x = false) : pop all (l.take (k + 1)) = l.take (k + 1) := by
  obtain ⟨h1, h2⟩ := take_last hx
  have hk := (List.getElem?_eq_some_iff.1 hx).1
  have hlen : (l.take (k + 1)).length = k + 1 := by rw [List.length_take]; omega
  unfold pop
  rw [hlen]
  simp [popL, h1, hl]
theorem pop_nil (all : List Rec) (l : List Nat) : pop all (l.take 0) = [] := by simp [pop, popL]

theorem lf_at {all : List Rec} {i : Nat} {r : Rec} (h : all[i]? = some r) : lfAt all i = r.lf := by simp [lfAt, h]
theorem d_at {all : List Rec} {i : Nat} {r : Rec} (h : all[i]? = some r) : dAt all i = r.d := by simp [dAt, h]

theorem leave_snoc (all : List Rec) (l : List Nat) (x : Nat) : leave all (l ++ [x]) = (leave all l).modify x fun r => { r with lf := true } := by simp [leave]
end Go.Proofs.YtcalmojhdpagoaaDoor
