/- Texts of this proof, put together: PeepLook, PeepForms, PeepEff, PeepHeap. -/
import Derived.Test.YtmecmlpoallpcaaGreatDoorM03
set_option linter.unusedSimpArgs false
/- Plain law: whether the stacks fit, found by handing stacks on. No program in sight. -/
namespace Go.Proofs.PeepPlain
set_option linter.unusedVariables false

section
variable {T : Type} {E : Eff T}
/-- What was handed where, what was looked at, what is still to be looked at. -/
structure Look (E : Eff T) (l : List Ins) (given : List (Option T)) (seen : List Bool) (todo : List Nat) : Prop where
  lenA : given.length = l.length + 1
  lenS : seen.length = l.length
  zero : given.getD 0 none = some E.start
  comes : ∀ k s, given.getD k none = some s → Comes E l k s
  want : ∀ k ∈ todo, k < l.length ∧ ∃ s, given.getD k none = some s
  done : ∀ k, seen.getD k false = true → ∃ s r, given.getD k none = some s ∧ E.eff (l.getD k default) s = some r ∧ (opAt l k ≠ 34 → opAt l k ≠ 50 → given.getD (k + 1) none = some r.1) ∧ (jumps (opAt l k) → given.getD (aAt l k) none = some r.2)
  left : ∀ k s, given.getD k none = some s → seen.getD k false = true ∨ k ∈ todo
/-- s is handed to instruction k. -/
def handA (g : List (Option T)) (k : Nat) (s : T) : List (Option T) := if g.getD k none = none then g.set k (some s) else g
def handT (g : List (Option T)) (todo : List Nat) (k : Nat) : List Nat := if g.getD k none = none then todo ++ [k] else todo
theorem opt_set (g : List (Option T)) (k j : Nat) (x : Option T) : (g.set k x).getD j none = if k = j ∧ j < g.length then x else g.getD j none := set_getD g k j x none
theorem handA_length (g : List (Option T)) (k : Nat) (s : T) : (handA g k s).length = g.length := by
  unfold handA; split <;> simp
theorem handA_at {g : List (Option T)} {k : Nat} {s : T} (hk : k < g.length) (h : g.getD k none = none ∨ g.getD k none = some s) : (handA g k s).getD k none = some s := by
  unfold handA
  split
  · rw [opt_set, if_pos ⟨rfl, hk⟩]
  · rename_i hn
    rcases h with h | h
    · exact absurd h hn
    · exact h
theorem handA_keeps {g : List (Option T)} {k j : Nat} {s u : T} (h : g.getD j none = some u) : (handA g k s).getD j none = some u := by
  unfold handA
  split
  · rename_i hn
    rw [opt_set]
    split
    · rename_i hc
      rw [hc.1, h] at hn
      cases hn
    · exact h
  · exact h
theorem handA_or {g : List (Option T)} {k j : Nat} {s u : T} (h : (handA g k s).getD j none = some u) : g.getD j none = some u ∨ (j = k ∧ u = s ∧ g.getD k none = none) := by
  unfold handA at h
  split at h
  · rename_i hn
    rw [opt_set] at h
    split at h
    · rename_i hc
      exact .inr ⟨hc.1.symm, (Option.some.inj h).symm, hn⟩
    · exact .inl h
  · exact .inl h
/-- What a hand keeps of what was known, but for what k is. -/
structure Half (E : Eff T) (l : List Ins) (given : List (Option T)) (seen : List Bool) (todo : List Nat) (k : Nat) : Prop where
  lenA : given.length = l.length + 1
  lenS : seen.length = l.length
  zero : given.getD 0 none = some E.start
  comes : ∀ k s, given.getD k none = some s → Comes E l k s
  want : ∀ k ∈ todo, k < l.length ∧ ∃ s, given.getD k none = some s
  done : ∀ j, j ≠ k → seen.getD j false = true → ∃ s r, given.getD j none = some s ∧ E.eff (l.getD j default) s = some r ∧ (opAt l j ≠ 34 → opAt l j ≠ 50 → given.getD (j + 1) none = some r.1) ∧ (jumps (opAt l j) → given.getD (aAt l j) none = some r.2)
  left : ∀ j s, given.getD j none = some s → seen.getD j false = true ∨ j ∈ todo
theorem half_hand {l : List Ins} {g : List (Option T)} {seen : List Bool} {todo : List Nat} {k j : Nat} {s : T} (H : Half E l g seen todo k) (hj : j < l.length) (hc : Comes E l j s) : Half E l (handA g j s) seen (handT g todo j) k where
  lenA := by rw [handA_length, H.lenA]
  lenS := H.lenS
  zero := handA_keeps H.zero
  comes := fun i u hi => by
    rcases handA_or hi with h | ⟨rfl, rfl, _⟩
    · exact H.comes i u h
    · exact hc
  want := fun i hi => by
    unfold handT at hi
    have key : i ∈ todo → i < l.length ∧ ∃ s_1, (handA g j s).getD i none = some s_1 := fun h => by
      obtain ⟨h1, u, h2⟩ := H.want i h
      exact ⟨h1, u, handA_keeps h2⟩
    split at hi
    · rename_i hn
      rcases List.mem_append.1 hi with h | h
      · exact key h
      · obtain rfl : i = j := by simpa using h
        exact ⟨hj, s, handA_at (by rw [H.lenA]; omega) (.inl hn)⟩
    · exact key hi
  done := fun i hne hi => by
    obtain ⟨u, r, h1, h2, h3, h4⟩ := H.done i hne hi
    exact ⟨u, r, handA_keeps h1, h2, fun a b => handA_keeps (h3 a b), fun a => handA_keeps (h4 a)⟩
  left := fun i u hi => by
    unfold handT
    rcases handA_or hi with h | ⟨rfl, rfl, hn⟩
    · rcases H.left i u h with h2 | h2
      · exact .inl h2
      · refine .inr ?_
        split
        · simp [h2]
        · exact h2
    · rw [if_pos hn]
      exact .inr (by simp)
theorem look_half {l : List Ins} {g : List (Option T)} {seen : List Bool} {todo rest : List Nat} {k : Nat} (L : Look E l g seen todo) (hp : ∀ j, j ∈ todo ↔ j = k ∨ j ∈ rest) : Half E l g (seen.set k true) rest k where
  lenA := L.lenA
  lenS := by simp [L.lenS]
  zero := L.zero
  comes := L.comes
  want := fun j hj => L.want j ((hp j).2 (.inr hj))
  done := fun j hne hj => by
    rw [List.getD_eq_getElem?_getD, List.getElem?_set_ne (Ne.symm hne), ← List.getD_eq_getElem?_getD] at hj
    exact L.done j hj
  left := fun j s hs => by
    by_cases hjk : j = k
    · subst hjk
      refine .inl ?_
      have := (L.want j ((hp j).2 (.inl rfl))).1
      rw [set_getD, if_pos ⟨rfl, by rw [L.lenS]; exact this⟩]
    · rw [set_getD, if_neg (by intro h; exact hjk h.1.symm)]
      rcases L.left j s hs with h | h
      · exact .inl h
      · rcases (hp j).1 h with h2 | h2
        · exact absurd h2 hjk
        · exact .inr h2
theorem half_look {l : List Ins} {g : List (Option T)} {seen : List Bool} {todo : List Nat} {k : Nat} {s : T} {r : T × T} (H : Half E l g seen todo k) (h1 : g.getD k none = some s) (h2 : E.eff (l.getD k default) s = some r)
    (h3 : opAt l k ≠ 34 → opAt l k ≠ 50 → g.getD (k + 1) none = some r.1) (h4 : jumps (opAt l k) → g.getD (aAt l k) none = some r.2) : Look E l g seen todo where
  lenA := H.lenA
  lenS := H.lenS
  zero := H.zero
  comes := H.comes
  want := H.want
  done := fun j hj => by
    by_cases hjk : j = k
    · subst hjk
      exact ⟨s, r, h1, h2, h3, h4⟩
    · exact H.done j hjk hj
  left := H.left
theorem look_skip {l : List Ins} {g : List (Option T)} {seen : List Bool} {todo rest : List Nat} {k : Nat} (L : Look E l g seen todo) (hp : ∀ j, j ∈ todo ↔ j = k ∨ j ∈ rest) (hs : seen.getD k false = true) : Look E l g seen rest where
  lenA := L.lenA
  lenS := L.lenS
  zero := L.zero
  comes := L.comes
  want := fun j hj => L.want j ((hp j).2 (.inr hj))
  done := L.done
  left := fun j s h => by
    rcases L.left j s h with h2 | h2
    · exact .inl h2
    · rcases (hp j).1 h2 with rfl | h3
      · exact .inl hs
      · exact .inr h3
theorem look_start (l : List Ins) (W : WF l) : Look E l ((List.replicate (l.length + 1) (none : Option T)).set 0 (some E.start)) (List.replicate l.length false) [0] where
  lenA := by simp
  lenS := by simp
  zero := by rw [opt_set]; simp
  comes := fun k s h => by
    rw [opt_set] at h
    split at h
    · rename_i hc
      obtain ⟨rfl, _⟩ := hc
      rw [← Option.some.inj h]
      exact .zero
    · rw [List.getD_eq_getElem?_getD, List.getElem?_replicate] at h
      split at h <;> cases h
  want := fun k hk => by
    obtain rfl : k = 0 := by simpa using hk
    exact ⟨W.pos, E.start, by rw [opt_set]; simp⟩
  done := fun k hk => by rw [replicate_no] at hk; cases hk
  left := fun k s h => by
    rw [opt_set] at h
    split at h
    · rename_i hc
      exact .inr (by simp [hc.1])
    · rw [List.getD_eq_getElem?_getD, List.getElem?_replicate] at h
      split at h <;> cases h
/-- All was looked at: the stacks fit. -/
theorem look_all {l : List Ins} {g : List (Option T)} {seen : List Bool} (L : Look E l g seen []) {k : Nat} {s : T} (h : Comes E l k s) : g.getD k none = some s := by
  have got : ∀ k s, g.getD k none = some s → seen.getD k false = true := fun k s h => (L.left k s h).resolve_right (by simp)
  induction h with
  | zero => exact L.zero
  | @next k s r _ hk he h1 h2 ih =>
    obtain ⟨u, q, e1, e2, e3, e4⟩ := L.done k (got k _ ih)
    rw [ih] at e1
    obtain rfl := Option.some.inj e1
    rw [he] at e2
    obtain rfl := Option.some.inj e2
    exact e3 h1 h2
  | @toA k s r _ hk he h1 ih =>
    obtain ⟨u, q, e1, e2, e3, e4⟩ := L.done k (got k _ ih)
    rw [ih] at e1
    obtain rfl := Option.some.inj e1
    rw [he] at e2
    obtain rfl := Option.some.inj e2
    exact e4 h1
theorem look_fits {l : List Ins} {g : List (Option T)} {seen : List Bool} (L : Look E l g seen []) : Fits E l where
  goes := fun k s hk h => by
    have hg := look_all L h
    obtain ⟨u, q, e1, e2, _, _⟩ := L.done k ((L.left k s hg).resolve_right (by simp))
    rw [hg] at e1
    obtain rfl := Option.some.inj e1
    exact ⟨q, e2⟩
  one := fun k s u h1 h2 => Option.some.inj ((look_all L h1).symm.trans (look_all L h2))
/-- How many were handed nothing. -/
def nones (g : List (Option T)) : Nat := g.countP fun x => x.isNone
theorem nones_set {g : List (Option T)} {k : Nat} {s : T} (hk : k < g.length) (h : g.getD k none = none) : nones (g.set k (some s)) + 1 = nones g := by
  induction g generalizing k with
  | nil => simp at hk
  | cons b r ih =>
    cases k with
    | zero =>
      have : b = none := by simpa using h
      subst this
      simp [nones]
    | succ k =>
      have := ih (k := k) (by simpa using hk) (by simpa using h)
      unfold nones at *
      simp only [List.set_cons_succ, List.countP_cons]
      omega
theorem hand_less {g : List (Option T)} {k : Nat} {s : T} {todo : List Nat} (hk : k < g.length) : nones (handA g k s) + (handT g todo k).length = nones g + todo.length := by
  unfold handA handT
  split
  · rename_i hn
    have := nones_set (s := s) hk hn
    simp only [List.length_append, List.length_singleton]
    omega
  · rfl
end
end Go.Proofs.PeepPlain

/- Plain law: what an operation has, what it takes off the stack and lays there. No program in sight. (Printed by gen_forms.py.) -/
namespace Go.Proofs.PeepPlain
set_option linter.unusedVariables false

/-- Its word, what A may be, what Text may be, what it takes, what it lays. -/
structure Form where
  word : ByteArray
  a : Int
  text : Int
  takes : ByteArray
  lays : ByteArray
def form0 : Form := ⟨⟨#[]⟩, 0, 0, ⟨#[]⟩, ⟨#[]⟩⟩
def formL : List Form := [form0,
  ⟨⟨#[115, 116, 101, 112]⟩, 0, 0, ⟨#[]⟩, ⟨#[]⟩⟩,
  ⟨⟨#[116, 105, 99, 107]⟩, 0, 0, ⟨#[]⟩, ⟨#[]⟩⟩,
  ⟨⟨#[105, 110, 116]⟩, 0, 12, ⟨#[]⟩, ⟨#[118]⟩⟩,
  ⟨⟨#[102, 108, 111, 97, 116]⟩, 0, 13, ⟨#[]⟩, ⟨#[118]⟩⟩,
  ⟨⟨#[116, 101, 120, 116]⟩, 0, 14, ⟨#[]⟩, ⟨#[118]⟩⟩,
  ⟨⟨#[98, 111, 111, 108]⟩, 1, 0, ⟨#[]⟩, ⟨#[118]⟩⟩,
  ⟨⟨#[110, 105, 108]⟩, 0, 0, ⟨#[]⟩, ⟨#[118]⟩⟩,
  ⟨⟨#[110, 105, 108, 111, 102]⟩, 1, 15, ⟨#[]⟩, ⟨#[118]⟩⟩,
  ⟨⟨#[108, 111, 97, 100]⟩, 3, 0, ⟨#[]⟩, ⟨#[118]⟩⟩,
  ⟨⟨#[103, 108, 111, 98, 97, 108]⟩, 4, 0, ⟨#[]⟩, ⟨#[118]⟩⟩,
  ⟨⟨#[116, 97, 107, 101, 110]⟩, 5, 0, ⟨#[]⟩, ⟨#[118]⟩⟩,
  ⟨⟨#[102, 114, 101, 115, 104]⟩, 3, 0, ⟨#[118]⟩, ⟨#[]⟩⟩,
  ⟨⟨#[115, 116, 111, 114, 101]⟩, 3, 0, ⟨#[118]⟩, ⟨#[]⟩⟩,
  ⟨⟨#[115, 116, 111, 114, 101, 103, 108, 111, 98, 97, 108]⟩, 4, 0, ⟨#[118]⟩, ⟨#[]⟩⟩,
  ⟨⟨#[115, 116, 111, 114, 101, 116, 97, 107, 101, 110]⟩, 5, 0, ⟨#[118]⟩, ⟨#[]⟩⟩,
  ⟨⟨#[112, 111, 112]⟩, 0, 0, ⟨#[118]⟩, ⟨#[]⟩⟩,
  ⟨⟨#[100, 117, 112]⟩, 0, 0, ⟨#[118]⟩, ⟨#[118, 118]⟩⟩,
  ⟨⟨#[117, 110, 97, 114, 121]⟩, 0, 16, ⟨#[118]⟩, ⟨#[118]⟩⟩,
  ⟨⟨#[98, 105, 110, 97, 114, 121]⟩, 0, 17, ⟨#[118, 118]⟩, ⟨#[118]⟩⟩,
  ⟨⟨#[116, 114, 117, 116, 104]⟩, 0, 18, ⟨#[118]⟩, ⟨#[118]⟩⟩,
  ⟨⟨#[99, 111, 110, 118, 101, 114, 116]⟩, 6, 19, ⟨#[118]⟩, ⟨#[118]⟩⟩,
  ⟨⟨#[115, 101, 108, 101, 99, 116]⟩, 1, 20, ⟨#[118]⟩, ⟨#[118]⟩⟩,
  ⟨⟨#[101, 120, 112, 114, 101, 115, 115, 105, 111, 110]⟩, 1, 21, ⟨#[]⟩, ⟨#[118]⟩⟩,
  ⟨⟨#[105, 110, 100, 101, 120]⟩, 0, 0, ⟨#[118, 118]⟩, ⟨#[118]⟩⟩,
  ⟨⟨#[105, 110, 100, 101, 120, 116, 119, 111]⟩, 0, 0, ⟨#[118, 118]⟩, ⟨#[118, 118]⟩⟩,
  ⟨⟨#[115, 108, 105, 99, 101]⟩, 11, 0, ⟨#[]⟩, ⟨#[118]⟩⟩,
  ⟨⟨#[108, 105, 115, 116]⟩, 7, 0, ⟨#[]⟩, ⟨#[118]⟩⟩,
  ⟨⟨#[109, 97, 112]⟩, 7, 0, ⟨#[]⟩, ⟨#[118]⟩⟩,
  ⟨⟨#[115, 116, 114, 117, 99, 116]⟩, 8, 22, ⟨#[]⟩, ⟨#[118]⟩⟩,
  ⟨⟨#[111, 98, 106, 101, 99, 116]⟩, 0, 0, ⟨#[118]⟩, ⟨#[118]⟩⟩,
  ⟨⟨#[108, 105, 116, 101, 114, 97, 108]⟩, 9, 0, ⟨#[]⟩, ⟨#[118]⟩⟩,
  ⟨⟨#[97, 115, 115, 101, 114, 116]⟩, 1, 23, ⟨#[118]⟩, ⟨#[118]⟩⟩,
  ⟨⟨#[104, 111, 108, 100, 115]⟩, 2, 23, ⟨#[118]⟩, ⟨#[118, 118]⟩⟩,
  ⟨⟨#[106, 117, 109, 112]⟩, 10, 0, ⟨#[]⟩, ⟨#[]⟩⟩,
  ⟨⟨#[98, 114, 97, 110, 99, 104]⟩, 10, 0, ⟨#[118]⟩, ⟨#[]⟩⟩,
  ⟨⟨#[97, 110, 100]⟩, 10, 0, ⟨#[118]⟩, ⟨#[]⟩⟩,
  ⟨⟨#[111, 114]⟩, 10, 0, ⟨#[118]⟩, ⟨#[]⟩⟩,
  ⟨⟨#[112, 108, 97, 99, 101, 115, 108, 111, 116]⟩, 3, 0, ⟨#[]⟩, ⟨#[112]⟩⟩,
  ⟨⟨#[112, 108, 97, 99, 101, 103, 108, 111, 98, 97, 108]⟩, 4, 0, ⟨#[]⟩, ⟨#[112]⟩⟩,
  ⟨⟨#[112, 108, 97, 99, 101, 116, 97, 107, 101, 110]⟩, 5, 0, ⟨#[]⟩, ⟨#[112]⟩⟩,
  ⟨⟨#[112, 108, 97, 99, 101, 111, 102]⟩, 0, 0, ⟨#[118]⟩, ⟨#[112]⟩⟩,
  ⟨⟨#[112, 108, 97, 99, 101, 105, 110, 100, 101, 120]⟩, 0, 0, ⟨#[118, 118]⟩, ⟨#[112]⟩⟩,
  ⟨⟨#[112, 108, 97, 99, 101, 102, 105, 101, 108, 100]⟩, 0, 20, ⟨#[63]⟩, ⟨#[112]⟩⟩,
  ⟨⟨#[102, 101, 116, 99, 104]⟩, 0, 0, ⟨#[112]⟩, ⟨#[112, 118]⟩⟩,
  ⟨⟨#[112, 117, 116]⟩, 0, 0, ⟨#[112, 118]⟩, ⟨#[]⟩⟩,
  ⟨⟨#[99, 97, 108, 108]⟩, 7, 0, ⟨#[118]⟩, ⟨#[118]⟩⟩,
  ⟨⟨#[98, 117, 105, 108, 116]⟩, 7, 24, ⟨#[]⟩, ⟨#[118]⟩⟩,
  ⟨⟨#[100, 101, 102, 101, 114]⟩, 7, 0, ⟨#[118]⟩, ⟨#[]⟩⟩,
  ⟨⟨#[100, 101, 102, 101, 114, 98, 117, 105, 108, 116]⟩, 7, 24, ⟨#[]⟩, ⟨#[]⟩⟩,
  ⟨⟨#[114, 101, 116, 117, 114, 110]⟩, 0, 0, ⟨#[118]⟩, ⟨#[]⟩⟩,
  ⟨⟨#[116, 117, 114, 110]⟩, 0, 0, ⟨#[118]⟩, ⟨#[116]⟩⟩,
  ⟨⟨#[110, 101, 120, 116]⟩, 10, 0, ⟨#[116]⟩, ⟨#[116, 118, 118]⟩⟩,
  ⟨⟨#[100, 114, 111, 112]⟩, 7, 0, ⟨#[]⟩, ⟨#[]⟩⟩]
def formOf (op : Int) : Form := formL.getD op.toNat form0
/-- So many of a sort taken off. -/
def lessN (c : Int) : Nat → List Int → Option (List Int)
  | 0, s => some s
  | _ + 1, [] => none
  | n + 1, t :: s => if t = c ∨ (c = 63 ∧ (t = 118 ∨ t = 112)) then lessN c n s else none
/-- These taken off, the first one first. -/
def lessL : List Int → List Int → Option (List Int)
  | [], s => some s
  | c :: r, s => (lessN c 1 s).bind (lessL r)
/-- These laid, the first one first. -/
def layL : List Int → List Int → Option (List Int)
  | [], s => some s
  | c :: r, s => if s.length + 1 > 30000 then none else layL r (c :: s)
/-- How many of what sort an instruction takes, that are told by its number. -/
def counted (i : Ins) : Int × Int :=
  if i.op = 27 ∨ i.op = 29 ∨ i.op = 46 ∨ i.op = 47 ∨ i.op = 48 ∨ i.op = 49 then (118, i.a) else if i.op = 28 then (118, 2 * i.a) else if i.op = 26 then (118, if i.b = 0 then i.a + 1 else if i.b = 3 then i.a - 1 else i.a) else if i.op = 53 then (116, i.a) else (118, 0)
def bytesOf (s : ByteArray) : List Int := s.data.toList.map fun (b : UInt8) => (b.toNat : Int)
def effOf (i : Ins) (s : List Int) : Option (List Int × List Int) :=
  (lessN (counted i).1 (counted i).2.toNat s).bind fun s1 => (lessL (bytesOf (formOf i.op).takes).reverse s1).bind fun s2 => (layL (bytesOf (formOf i.op).lays) s2).map fun s3 => (s3, if i.op = 36 ∨ i.op = 37 then 118 :: s2 else s2)
def E0 : Eff (List Int) := ⟨effOf, [], fun s => if s.length + 1 > 30000 then none else some (118 :: s)⟩
end Go.Proofs.PeepPlain

/- Plain law: what an instruction does to the stack is as the plain laws ask. No program in sight. -/
namespace Go.Proofs.PeepPlain
set_option linter.unusedVariables false

theorem lessN_zero (c : Int) (s : List Int) : lessN c 0 s = some s := by cases s <;> rfl
theorem lessN_one (c t : Int) (s : List Int) : lessN c 1 (t :: s) = if t = c ∨ (c = 63 ∧ (t = 118 ∨ t = 112)) then some s else none := by
  simp only [lessN]
theorem eff_as (i : Ins) (s : List Int) (tk ly : List Int) {c n : Int} (h1 : counted i = (c, n)) (h2 : (bytesOf (formOf i.op).takes).reverse = tk) (h3 : bytesOf (formOf i.op).lays = ly) :
    effOf i s = (lessN c n.toNat s).bind fun s1 => (lessL tk s1).bind fun s2 => (layL ly s2).map fun s3 => (s3, if i.op = 36 ∨ i.op = 37 then 118 :: s2 else s2) := by
  subst h2 h3
  unfold effOf
  rw [h1]
theorem counted_no {i : Ins} (h : i.op = 34 ∨ i.op = 3 ∨ i.op = 6 ∨ i.op = 18 ∨ i.op = 19 ∨ i.op = 35) : counted i = (118, 0) := by
  rcases h with h | h | h | h | h | h <;> simp [counted, h]
theorem eff_34 (i : Ins) (h : i.op = 34) (s : List Int) : effOf i s = some (s, s) := by
  rw [eff_as i s [] [] (counted_no (by simp [h])) (by rw [h]; decide) (by rw [h]; decide), h]
  simp [lessN_zero, lessL, layL]
theorem eff_flat (i : Ins) (h : flat i.op) (s : List Int) : effOf i s = (E0.push s).map fun u => (u, s) := by
  rcases h with h | h
  · rw [eff_as i s [] [118] (counted_no (by simp [h])) (by rw [h]; decide) (by rw [h]; decide), h]
    simp [lessN_zero, lessL, layL, E0]
  · rw [eff_as i s [] [118] (counted_no (by simp [h])) (by rw [h]; decide) (by rw [h]; decide), h]
    simp [lessN_zero, lessL, layL, E0]
theorem push_some {s u : List Int} (h : E0.push s = some u) : u = 118 :: s ∧ ¬ s.length + 1 > 30000 := by
  simp only [E0] at h
  split at h
  · cases h
  · exact ⟨(Option.some.inj h).symm, by assumption⟩
theorem e0_fair : E0.Fair where
  turn := fun i x s hj => by
    show effOf _ s = effOf i s
    have e : counted { i with a := x } = counted i := by
      rcases hj with h | h | h | h | h <;> simp [counted, h]
    unfold effOf
    rw [e]
  jump := fun i s h => eff_34 i h s
  flat := fun i s h => eff_flat i h s
  un := fun i s u r h hu he => by
    obtain ⟨rfl, hlen⟩ := push_some hu
    have he : effOf i (118 :: s) = some r := he
    rw [eff_as i _ [118] [118] (counted_no (by simp [h])) (by rw [h]; decide) (by rw [h]; decide), h] at he
    simp only [Int.toNat_zero, lessN_zero, Option.bind_some, lessL, lessN_one] at he
    simp only [true_or, if_true, Option.bind_some, layL, if_neg hlen, Option.map_some] at he
    rw [← Option.some.inj he]
  bi := fun i s u w r h hu hw he => by
    obtain ⟨rfl, hlen⟩ := push_some hu
    obtain ⟨rfl, hlen2⟩ := push_some hw
    have he : effOf i (118 :: 118 :: s) = some r := he
    rw [eff_as i _ [118, 118] [118] (counted_no (by simp [h])) (by rw [h]; decide) (by rw [h]; decide), h] at he
    simp only [Int.toNat_zero, lessN_zero, Option.bind_some, lessL, lessN_one] at he
    simp only [true_or, if_true, Option.bind_some, lessL, lessN_one, layL, if_neg hlen, Option.map_some] at he
    rw [← Option.some.inj he]
  branch := fun i s u r h hu he => by
    obtain ⟨rfl, hlen⟩ := push_some hu
    have he : effOf i (118 :: s) = some r := he
    rw [eff_as i _ [118] [] (counted_no (by simp [h])) (by rw [h]; decide) (by rw [h]; decide), h] at he
    simp only [Int.toNat_zero, lessN_zero, Option.bind_some, lessL, lessN_one] at he
    simp only [true_or, if_true, Option.bind_some, layL, Option.map_some] at he
    exact (Option.some.inj he).symm
end Go.Proofs.PeepPlain

/- Plain laws: numbers of which the least comes first (as Go's container/heap keeps them): what is pushed and popped is the same numbers; the least is popped. No program in sight. -/
namespace Go.Proofs.PeepPlain
set_option linter.unusedVariables false

/-- Two change places. -/
def swapL (l : List Int) (i j : Nat) : List Int := (l.set i (l.getD j 0)).set j (l.getD i 0)
theorem swap_length (l : List Int) (i j : Nat) : (swapL l i j).length = l.length := by simp [swapL]
theorem swap_get {l : List Int} {i j : Nat} (hi : i < l.length) (hj : j < l.length) (k : Nat) : (swapL l i j).getD k 0 = if k = j then l.getD i 0 else if k = i then l.getD j 0 else l.getD k 0 := by
  unfold swapL
  rw [set_getD, set_getD]
  by_cases h1 : k = j
  · subst h1
    rw [if_pos ⟨rfl, by rw [List.length_set]; exact hj⟩, if_pos rfl]
  · rw [if_neg (fun h => h1 h.1.symm), if_neg h1]
    by_cases h2 : k = i
    · subst h2
      rw [if_pos ⟨rfl, hi⟩, if_pos rfl]
    · rw [if_neg (fun h => h2 h.1.symm), if_neg h2]
theorem getD_at {l : List Int} {i : Nat} (h : i < l.length) : l.getD i 0 = l[i] := by
  rw [List.getD_eq_getElem?_getD, List.getElem?_eq_getElem h]
  rfl
theorem swap_perm {l : List Int} {i j : Nat} (hi : i < l.length) (hj : j < l.length) : (swapL l i j).Perm l := by
  rw [List.perm_iff_count]
  intro x
  unfold swapL
  rw [List.count_set (by rw [List.length_set]; exact hj), List.count_set hi]
  rw [getD_at hi, getD_at hj]
  have h1 : ∀ k (hk : k < l.length), l[k] = x → 0 < l.count x := fun k hk e => List.count_pos_iff.2 (e ▸ List.getElem_mem hk)
  have e1 := h1 i hi
  have e2 := h1 j hj
  rw [List.getElem_set]
  by_cases hij : i = j
  · subst hij
    by_cases h : l[i] = x
    · have := e1 h
      simp only [h, beq_self_eq_true, if_pos]
      omega
    · simp [h]
  · rw [if_neg hij]
    by_cases ha : l[i] = x <;> by_cases hb : l[j] = x <;> simp [ha, hb]
    all_goals first | (have := e1 ha; omega) | (have := e2 hb; omega)
/-- One goes up. -/
def upL (l : List Int) (j : Nat) : List Int :=
  if h : j = 0 then l else if l.getD j 0 < l.getD ((j - 1) / 2) 0 then upL (swapL l ((j - 1) / 2) j) ((j - 1) / 2) else l
termination_by j
decreasing_by omega
/-- Where the least of the two below stands. -/
def leastBelow (l : List Int) (i n : Nat) : Nat := if 2 * i + 1 + 1 < n ∧ l.getD (2 * i + 1 + 1) 0 < l.getD (2 * i + 1) 0 then 2 * i + 1 + 1 else 2 * i + 1
theorem leastBelow_lt {l : List Int} {i n : Nat} (h : 2 * i + 1 < n) : i < leastBelow l i n ∧ leastBelow l i n < n := by
  unfold leastBelow
  split <;> omega
/-- One goes down. -/
def downL (l : List Int) (i n : Nat) : List Int :=
  if h : 2 * i + 1 < n then if l.getD (leastBelow l i n) 0 < l.getD i 0 then downL (swapL l i (leastBelow l i n)) (leastBelow l i n) n else l else l
termination_by n - i
decreasing_by
  have := leastBelow_lt (l := l) h
  omega
theorem up_length : ∀ (m j : Nat) (l : List Int), j ≤ m → (upL l j).length = l.length := by
  intro m
  induction m with
  | zero => intro j l h; rw [upL, dif_pos (by omega)]
  | succ m ih =>
    intro j l h
    rw [upL]
    split
    · rfl
    · split
      · rw [ih _ _ (by omega), swap_length]
      · rfl
theorem down_length : ∀ (m i n : Nat) (l : List Int), n - i ≤ m → (downL l i n).length = l.length := by
  intro m
  induction m with
  | zero => intro i n l h; rw [downL, dif_neg (by omega)]
  | succ m ih =>
    intro i n l h
    rw [downL]
    split
    · rename_i h1
      have := leastBelow_lt (l := l) h1
      split
      · rw [ih _ _ _ (by omega), swap_length]
      · rfl
    · rfl
theorem up_perm : ∀ (m j : Nat) (l : List Int), j ≤ m → j < l.length → (upL l j).Perm l := by
  intro m
  induction m with
  | zero => intro j l h _; rw [upL, dif_pos (by omega)]
  | succ m ih =>
    intro j l h hj
    rw [upL]
    split
    · exact .refl _
    · split
      · exact (ih _ _ (by omega) (by rw [swap_length]; omega)).trans (swap_perm (by omega) hj)
      · exact .refl _
theorem down_perm : ∀ (m i n : Nat) (l : List Int), n - i ≤ m → n ≤ l.length → (downL l i n).Perm l := by
  intro m
  induction m with
  | zero => intro i n l h _; rw [downL, dif_neg (by omega)]
  | succ m ih =>
    intro i n l h hn
    rw [downL]
    split
    · rename_i h1
      have := leastBelow_lt (l := l) h1
      split
      · exact (ih _ _ _ (by omega) (by rw [swap_length]; omega)).trans (swap_perm (by omega) (by omega))
      · exact .refl _
    · exact .refl _
/-- What stands behind the first n stays. -/
theorem down_behind : ∀ (m i n : Nat) (l : List Int), n - i ≤ m → n ≤ l.length → ∀ k, n ≤ k → (downL l i n).getD k 0 = l.getD k 0 := by
  intro m
  induction m with
  | zero => intro i n l h _ k _; rw [downL, dif_neg (by omega)]
  | succ m ih =>
    intro i n l h hn k hk
    rw [downL]
    split
    · rename_i h1
      have := leastBelow_lt (l := l) h1
      split
      · rw [ih _ _ _ (by omega) (by rw [swap_length]; omega) k hk, swap_get (by omega) (by omega), if_neg (by omega), if_neg (by omega)]
      · rfl
    · rfl

/-! ### The least comes first -/
/-- Nobody is less than who stands above him. -/
def HeapL (l : List Int) (n : Nat) : Prop := ∀ k, 0 < k → k < n → l.getD ((k - 1) / 2) 0 ≤ l.getD k 0
theorem heap_least {l : List Int} {n : Nat} (H : HeapL l n) : ∀ (k : Nat), k < n → l.getD 0 0 ≤ l.getD k 0 := by
  intro k
  induction k using Nat.strongRecOn with
  | ind k ih =>
    intro hk
    by_cases h0 : k = 0
    · subst h0; exact Int.le_refl _
    · exact Int.le_trans (ih ((k - 1) / 2) (by omega) (by omega)) (H k (by omega) hk)
theorem up_heap : ∀ (m j : Nat) (l : List Int), j ≤ m → j < l.length → (∀ k, 0 < k → k < l.length → k ≠ j → l.getD ((k - 1) / 2) 0 ≤ l.getD k 0) → (∀ k, 0 < k → k < l.length → (k - 1) / 2 = j → 0 < j → l.getD ((j - 1) / 2) 0 ≤ l.getD k 0) → HeapL (upL l j) l.length := by
  intro m
  induction m with
  | zero =>
    intro j l h _ h1 _
    rw [upL, dif_pos (by omega)]
    exact fun k h2 h3 => h1 k h2 h3 (by omega)
  | succ m ih =>
    intro j l h hj h1 h2
    rw [upL]
    split
    · exact fun k h3 h4 => h1 k h3 h4 (by omega)
    · rename_i h0
      have hp : (j - 1) / 2 < l.length := by omega
      split
      · rename_i hlt
        have := ih ((j - 1) / 2) (swapL l ((j - 1) / 2) j) (by omega) (by rw [swap_length]; omega) (fun k h3 h4 h5 => ?_) (fun k h3 h4 h5 h6 => ?_)
        · rw [swap_length] at this; exact this
        · rw [swap_length] at h4
          rw [swap_get hp hj, swap_get hp hj]
          by_cases e : k = j
          · subst e
            rw [if_pos rfl, if_neg (by omega), if_pos rfl]
            omega
          · rw [if_neg e, if_neg h5]
            by_cases e2 : (k - 1) / 2 = j
            · rw [if_pos e2]
              exact h2 k h3 h4 e2 (by omega)
            · rw [if_neg e2]
              by_cases e3 : (k - 1) / 2 = (j - 1) / 2
              · rw [if_pos e3]
                have := h1 k h3 h4 e
                rw [e3] at this
                omega
              · rw [if_neg e3]
                exact h1 k h3 h4 e
        · rw [swap_length] at h4
          rw [swap_get hp hj, swap_get hp hj]
          have q : l.getD (((j - 1) / 2 - 1) / 2) 0 ≤ l.getD ((j - 1) / 2) 0 := h1 _ h6 hp (by omega)
          rw [if_neg (show ((j - 1) / 2 - 1) / 2 ≠ j by omega), if_neg (show ((j - 1) / 2 - 1) / 2 ≠ (j - 1) / 2 by omega)]
          by_cases e : k = j
          · rw [if_pos e]; exact q
          · rw [if_neg e, if_neg (by omega)]
            have := h1 k h3 h4 e
            rw [h5] at this
            omega
      · rename_i hlt
        intro k h3 h4
        by_cases e : k = j
        · subst e; omega
        · exact h1 k h3 h4 e
theorem down_heap : ∀ (m i n : Nat) (l : List Int), n - i ≤ m → n ≤ l.length → (∀ k, 0 < k → k < n → (k - 1) / 2 ≠ i → l.getD ((k - 1) / 2) 0 ≤ l.getD k 0) → (∀ k, 0 < k → k < n → (k - 1) / 2 = i → 0 < i → l.getD ((i - 1) / 2) 0 ≤ l.getD k 0) → HeapL (downL l i n) n := by
  intro m
  induction m with
  | zero =>
    intro i n l h _ h1 _
    rw [downL, dif_neg (by omega)]
    exact fun k h2 h3 => h1 k h2 h3 (by omega)
  | succ m ih =>
    intro i n l h hn h1 h2
    rw [downL]
    split
    · rename_i hlt
      have hb := leastBelow_lt (l := l) hlt
      have hle : ∀ k, 0 < k → k < n → (k - 1) / 2 = i → l.getD (leastBelow l i n) 0 ≤ l.getD k 0 := fun k h3 h4 h5 => by
        have : k = 2 * i + 1 ∨ k = 2 * i + 1 + 1 := by omega
        unfold leastBelow
        split
        · rename_i h6
          rcases this with rfl | rfl <;> omega
        · rename_i h6
          rcases this with rfl | rfl <;> omega
      have hpb : (leastBelow l i n - 1) / 2 = i := by
        unfold leastBelow
        split <;> omega
      split
      · rename_i hsm
        refine ih _ _ _ (by omega) (by rw [swap_length]; omega) (fun k h3 h4 h5 => ?_) (fun k h3 h4 h5 h6 => ?_)
        · rw [swap_get (by omega) (by omega), swap_get (by omega) (by omega), if_neg h5]
          by_cases e : (k - 1) / 2 = i
          · rw [if_pos e]
            by_cases e2 : k = leastBelow l i n
            · rw [if_pos e2]; omega
            · rw [if_neg e2, if_neg (by omega)]
              exact hle k h3 h4 e
          · rw [if_neg e]
            rw [if_neg (show k ≠ leastBelow l i n by rintro rfl; exact e hpb)]
            by_cases e3 : k = i
            · subst e3
              rw [if_pos rfl]
              exact h2 _ (by omega) hb.2 hpb h3
            · rw [if_neg e3]
              exact h1 k h3 h4 e
        · rw [swap_get (by omega) (by omega), swap_get (by omega) (by omega), hpb, if_neg (by omega), if_pos rfl, if_neg (by omega), if_neg (by omega)]
          have := h1 k h3 h4 (by omega)
          rwa [h5] at this
      · rename_i hsm
        intro k h3 h4
        by_cases e : (k - 1) / 2 = i
        · have := hle k h3 h4 e
          rw [e]; omega
        · exact h1 k h3 h4 e
    · rename_i hlt
      intro k h3 h4
      by_cases e : (k - 1) / 2 = i
      · omega
      · exact h1 k h3 h4 e

/-! ### What is pushed, what is popped -/
def pushH (l : List Int) (x : Int) : List Int := upL (l ++ [x]) l.length
/-- All behind a pop, the popped one last. -/
def poppedH (l : List Int) : List Int := downL (swapL l 0 (l.length - 1)) 0 (l.length - 1)
def popH (l : List Int) : Int × List Int := ((poppedH l).getD (l.length - 1) 0, (poppedH l).take (l.length - 1))
theorem pushH_perm (l : List Int) (x : Int) : (pushH l x).Perm (x :: l) := (up_perm _ _ _ (Nat.le_refl _) (by simp)).trans (List.perm_append_singleton x l)
theorem pushH_length (l : List Int) (x : Int) : (pushH l x).length = l.length + 1 := by
  unfold pushH
  rw [up_length _ _ _ (Nat.le_refl _)]
  simp
theorem getD_append_left {l m : List Int} {k : Nat} (h : k < l.length) : (l ++ m).getD k 0 = l.getD k 0 := by
  rw [List.getD_eq_getElem?_getD, List.getElem?_append_left h, ← List.getD_eq_getElem?_getD]
theorem pushH_heap {l : List Int} (H : HeapL l l.length) (x : Int) : HeapL (pushH l x) (pushH l x).length := by
  rw [pushH_length]
  have := up_heap _ l.length (l ++ [x]) (Nat.le_refl _) (by simp) (fun k h1 h2 h3 => by
    rw [List.length_append, List.length_singleton] at h2
    rw [getD_append_left (by omega), getD_append_left (by omega)]
    exact H k h1 (by omega)) (fun k h1 h2 h3 h4 => by
    rw [List.length_append, List.length_singleton] at h2
    omega)
  rw [List.length_append, List.length_singleton] at this
  exact this
theorem poppedH_length (l : List Int) : (poppedH l).length = l.length := by
  unfold poppedH
  rw [down_length _ _ _ _ (Nat.le_refl _), swap_length]
theorem popH_first {l : List Int} (h : 0 < l.length) : (popH l).1 = l.getD 0 0 := by
  unfold popH poppedH
  rw [down_behind _ _ _ _ (Nat.le_refl _) (by rw [swap_length]; omega) _ (Nat.le_refl _), swap_get h (by omega), if_pos rfl]
theorem popH_split {l : List Int} (h : 0 < l.length) : poppedH l = (popH l).2 ++ [(popH l).1] := by
  unfold popH
  have hl : l.length - 1 < (poppedH l).length := by rw [poppedH_length]; omega
  rw [getD_at hl]
  show poppedH l = (poppedH l).take (l.length - 1) ++ [(poppedH l)[l.length - 1]]
  rw [List.take_append_getElem hl, List.take_of_length_le (by rw [poppedH_length]; omega)]
theorem popH_perm {l : List Int} (h : 0 < l.length) : l.Perm ((popH l).1 :: (popH l).2) := by
  have h1 : (poppedH l).Perm l := (down_perm _ _ _ _ (Nat.le_refl _) (by rw [swap_length]; omega)).trans (swap_perm h (by omega))
  rw [popH_split h] at h1
  exact h1.symm.trans (List.perm_append_singleton _ _)
theorem popH_length (l : List Int) : (popH l).2.length = l.length - 1 := by
  unfold popH
  rw [List.length_take, poppedH_length]
  omega
theorem popH_heap {l : List Int} (H : HeapL l l.length) (h : 0 < l.length) : HeapL (popH l).2 (popH l).2.length := by
  rw [popH_length]
  have h1 : HeapL (poppedH l) (l.length - 1) := by
    refine down_heap _ _ _ _ (Nat.le_refl _) (by rw [swap_length]; omega) (fun k h2 h3 h4 => ?_) (fun k h2 h3 h4 h5 => by omega)
    rw [swap_get h (by omega), swap_get h (by omega), if_neg (by omega), if_neg h4, if_neg (by omega), if_neg (by omega)]
    exact H k h2 (by omega)
  intro k h2 h3
  have e : ∀ j, j < l.length - 1 → (popH l).2.getD j 0 = (poppedH l).getD j 0 := fun j hj => by
    unfold popH
    rw [List.getD_eq_getElem?_getD, List.getElem?_take, if_pos hj, ← List.getD_eq_getElem?_getD]
  rw [e _ (by omega), e _ h3]
  exact h1 k h2 h3
theorem popH_least {l : List Int} (H : HeapL l l.length) (h : 0 < l.length) : ∀ x ∈ l, (popH l).1 ≤ x := fun x hx => by
  obtain ⟨k, hk, rfl⟩ := List.getElem_of_mem hx
  rw [popH_first h, ← getD_at hk]
  exact heap_least H k hk
end Go.Proofs.PeepPlain
