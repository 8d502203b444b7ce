/- How long the lists of a run are. No walk. -/
import Derived.Test.YtcalmojhdpagoaaDoorKeep3
namespace Go.Proofs.YtcalmojhdpagoaaDoor
set_option linter.unusedVariables false

structure St.atMost (st : St) (n : Nat) : Prop where
  all : st.all.length ≤ n
  op : st.op.length ≤ n
  bg : ∀ l ∈ st.bg, l.2.length ≤ n
  dep : ∀ r ∈ st.all, r.d ≤ n

theorem putK_mem {bg : List (Key × List Nat)} {n : Key} {l : List Nat} : ∀ x ∈ putK bg n l, x.2 = l ∨ x ∈ bg := by
  induction bg with
  | nil => intro x hx; simp [putK] at hx; exact .inl (by rw [hx])
  | cons y bg ih =>
    intro x hx
    simp only [putK] at hx
    split at hx
    · rcases List.mem_cons.1 hx with h | h
      · exact .inl (by rw [h])
      · exact .inr (List.mem_cons_of_mem _ h)
    · rcases List.mem_cons.1 hx with h | h
      · exact .inr (by rw [h]; exact List.mem_cons_self)
      · rcases ih x h with h | h
        · exact .inl h
        · exact .inr (List.mem_cons_of_mem _ h)
theorem getK_len {bg : List (Key × List Nat)} {N : Nat} (h : ∀ x ∈ bg, x.2.length ≤ N) (n : Key) : (getK bg n).length ≤ N := by
  unfold getK
  cases hf : bg.find? (fun x => decide (x.1 = n)) with
  | none => simp
  | some x => exact h x (List.mem_of_find?_eq_some hf)
theorem popL_len (all : List Rec) : ∀ (n : Nat) (l : List Nat), (popL all n l).length ≤ l.length
  | 0, l => Nat.le_refl _
  | n + 1, l => by
    simp only [popL]
    split
    · split
      · exact Nat.le_trans (popL_len all n _) (by simp)
      · exact Nat.le_refl _
    · exact Nat.le_refl _
theorem leave_mem_d (N : Nat) (f : Rec → Rec) (hf : ∀ r, (f r).d = r.d) (all : List Rec) (h : ∀ r ∈ all, r.d ≤ N) (i : Nat) : ∀ r ∈ all.modify i f, r.d ≤ N := by
  intro r hr
  obtain ⟨j, hj⟩ := List.mem_iff_getElem?.1 hr
  rw [List.getElem?_modify] at hj
  cases ha : all[j]? with
  | none => rw [ha] at hj; simp at hj
  | some a =>
    have := h a (List.mem_of_getElem? ha)
    rw [ha] at hj
    simp at hj
    subst hj
    split
    · rw [hf]; exact this
    · exact this
theorem leave_d (N : Nat) (all : List Rec) (l : List Nat) (h : ∀ r ∈ all, r.d ≤ N) : ∀ r ∈ leave all l, r.d ≤ N := by
  induction l generalizing all with
  | nil => exact h
  | cons i l ih => exact ih _ (leave_mem_d N _ (by intro r; rfl) _ h i)

theorem St.atMost.begin {st : St} {n : Nat} (h : st.atMost n) (e : Ev) : (st.begin e).atMost (n + 1) where
  all := by simp [St.begin]; exact h.all
  op := by simp [St.begin]; exact h.op
  bg := fun x hx => by
    rcases putK_mem x hx with he | hm
    · rw [he]; have := getK_len h.bg e.key; simp; omega
    · have := h.bg x hm; omega
  dep := fun r hr => by
    simp only [St.begin, List.mem_append, List.mem_singleton] at hr
    rcases hr with hr | rfl
    · have := h.dep r hr; omega
    · have := h.op; simp [newRec]; omega
theorem St.atMost.finish {st : St} {n : Nat} (h : st.atMost n) (e : Ev) : (st.finish e).atMost n := by
  have hb : ∀ x ∈ putK st.bg e.key (pop st.all (getK st.bg e.key)), x.2.length ≤ n := fun x hx => by
    rcases putK_mem x hx with he | hm
    · rw [he]; exact Nat.le_trans (popL_len _ _ _) (getK_len h.bg e.key)
    · exact h.bg x hm
  unfold St.finish
  dsimp only
  split
  · exact ⟨h.all, h.op, hb, h.dep⟩
  · refine ⟨?_, ?_, hb, ?_⟩
    · simp only [leave_length, List.length_modify]; exact h.all
    · simp only [List.length_take]; have := h.op; omega
    · exact leave_d n _ _ (leave_mem_d n _ (by intro r; rfl) _ h.dep _)
theorem St.atMost.le {st : St} {n m : Nat} (h : st.atMost n) (hm : n ≤ m) : st.atMost m :=
  ⟨Nat.le_trans h.all hm, Nat.le_trans h.op hm, fun l hl => Nat.le_trans (h.bg l hl) hm, fun r hr => Nat.le_trans (h.dep r hr) hm⟩
theorem St.atMost.step {st : St} {n : Nat} (h : st.atMost n) (e : Ev) : (st.step e).atMost (n + 1) := by
  unfold St.step
  split
  · exact h.begin e
  · split
    · exact (h.finish e).le (Nat.le_succ _)
    · exact h.le (Nat.le_succ _)
theorem runT_atMost (l : List Ev) : (runT l).atMost l.length := by
  have : ∀ (l : List Ev) (st : St) (n : Nat), st.atMost n → (l.foldl St.step st).atMost (n + l.length) := by
    intro l
    induction l with
    | nil => exact fun st n h => h
    | cons e l ih =>
      intro st n h
      have := ih (st.step e) (n + 1) (h.step e)
      simp only [List.foldl_cons, List.length_cons]
      exact this.le (by omega)
  have h := this l St.zero 0 ⟨by simp [St.zero], by simp [St.zero], fun l hl => by simp [St.zero] at hl, fun r hr => by simp [St.zero] at hr⟩
  rw [Nat.zero_add] at h
  exact h
end Go.Proofs.YtcalmojhdpagoaaDoor
