/- Texts of this proof, put together: PeepPlain, PeepOut, PeepFold. -/

set_option linter.unusedSimpArgs false
/- Plain laws of package peep: instructions; who names a jump names what that names (threads): its end, that it ends, what stays. No program in sight. -/
namespace Go.Proofs.PeepPlain
set_option linter.unusedVariables false

/-- An instruction. -/
structure Ins where
  op : Int
  a : Int
  b : Int
  text : ByteArray
  pos : Int
instance : Inhabited Ins := ⟨⟨0, 0, 0, ⟨#[]⟩, 0⟩⟩
/-- Does an operation name another instruction? -/
def jumps (op : Int) : Prop := op = 34 ∨ op = 35 ∨ op = 36 ∨ op = 37 ∨ op = 52
instance (op : Int) : Decidable (jumps op) := inferInstanceAs (Decidable (_ ∨ _))
def opAt (l : List Ins) (t : Nat) : Int := (l.getD t default).op
def aAt (l : List Ins) (t : Nat) : Nat := (l.getD t default).a.toNat
/-- May it go on for good there? -/
def pauses (op : Int) : Prop := op = 1 ∨ op = 2
instance (op : Int) : Decidable (pauses op) := inferInstanceAs (Decidable (_ ∨ _))
/-- A function's code, but for the stack: who names one names one that is there; who goes back goes to a step or a tick; the last one goes away. -/
structure WF (l : List Ins) : Prop where
  pos : 0 < l.length
  low : ∀ k, k < l.length → jumps (opAt l k) → 0 ≤ (l.getD k default).a
  high : ∀ k, k < l.length → jumps (opAt l k) → aAt l k < l.length
  back : ∀ k, k < l.length → jumps (opAt l k) → aAt l k ≤ k → pauses (opAt l (aAt l k))
  last : opAt l (l.length - 1) = 50 ∨ opAt l (l.length - 1) = 34
theorem jump_jumps : jumps 34 := .inl rfl
theorem pauses_ne {op : Int} (h : pauses op) : op ≠ 34 := by rcases h with h | h <;> omega
theorem pauses_no {op : Int} (h : pauses op) : ¬ jumps op := by
  rintro (h2 | h2 | h2 | h2 | h2) <;> rcases h with h | h <;> omega

/-- Where one comes to in the end from t, by jumps alone. -/
def follow (l : List Ins) (t : Nat) : Nat :=
  if h : t < l.length ∧ opAt l t = 34 ∧ t < aAt l t then follow l (aAt l t) else if opAt l t = 34 then aAt l t else t
termination_by l.length - t
decreasing_by omega
theorem follow_on {l : List Ins} {t : Nat} (h1 : t < l.length) (h2 : opAt l t = 34) (h3 : t < aAt l t) : follow l t = follow l (aAt l t) := by
  rw [follow, dif_pos ⟨h1, h2, h3⟩]
theorem follow_back {l : List Ins} {t : Nat} (h2 : opAt l t = 34) (h3 : aAt l t ≤ t) : follow l t = aAt l t := by
  rw [follow, dif_neg (by omega), if_pos h2]
theorem follow_stop {l : List Ins} {t : Nat} (h2 : opAt l t ≠ 34) : follow l t = t := by
  rw [follow, dif_neg (by intro h; exact h2 h.2.1), if_neg h2]
/-- In right code one comes to what is no jump. -/
theorem follow_end {l : List Ins} (W : WF l) : ∀ (n t : Nat), l.length - t ≤ n → t < l.length → opAt l (follow l t) ≠ 34 ∧ follow l t < l.length := by
  intro n
  induction n with
  | zero => intro t h1 h2; omega
  | succ n ih =>
    intro t h1 h2
    by_cases hj : opAt l t = 34
    · have hg := W.high t h2 (by rw [hj]; exact jump_jumps)
      by_cases hf : t < aAt l t
      · rw [follow_on h2 hj hf]
        exact ih _ (by omega) hg
      · rw [follow_back hj (by omega)]
        exact ⟨pauses_ne (W.back t h2 (by rw [hj]; exact jump_jumps) (by omega)), hg⟩
    · rw [follow_stop hj]
      exact ⟨hj, h2⟩
theorem follow_no {l : List Ins} (W : WF l) {t : Nat} (h : t < l.length) : opAt l (follow l t) ≠ 34 := (follow_end W _ t (Nat.le_refl _) h).1
theorem follow_lt {l : List Ins} (W : WF l) {t : Nat} (h : t < l.length) : follow l t < l.length := (follow_end W _ t (Nat.le_refl _) h).2
theorem follow_idem {l : List Ins} (W : WF l) {t : Nat} (h : t < l.length) : follow l (follow l t) = follow l t := follow_stop (follow_no W h)
/-- One step of a jump, followed. -/
theorem follow_step {l : List Ins} (W : WF l) {t : Nat} (h : t < l.length) (hj : opAt l t = 34) : follow l t = follow l (aAt l t) := by
  by_cases hf : t < aAt l t
  · exact follow_on h hj hf
  · rw [follow_back hj (by omega), follow_stop (pauses_ne (W.back t h (by rw [hj]; exact jump_jumps) (by omega)))]
/-- Where one comes to from t on lies behind all that one does not come back from; or it is a step or a tick. -/
theorem follow_behind {l : List Ins} (W : WF l) : ∀ (n t k : Nat), l.length - t ≤ n → t < l.length → k < t → follow l t ≤ k → pauses (opAt l (follow l t)) := by
  intro n
  induction n with
  | zero => intro t k h1 h2; omega
  | succ n ih =>
    intro t k h1 h2 hk hle
    by_cases hj : opAt l t = 34
    · have hg := W.high t h2 (by rw [hj]; exact jump_jumps)
      by_cases hf : t < aAt l t
      · rw [follow_on h2 hj hf] at hle ⊢
        exact ih _ k (by omega) hg (by omega) hle
      · rw [follow_back hj (by omega)]
        exact W.back t h2 (by rw [hj]; exact jump_jumps) (by omega)
    · rw [follow_stop hj] at hle
      omega
theorem follow_pauses {l : List Ins} (W : WF l) {k : Nat} (hk : k < l.length) (hj : jumps (opAt l k)) (hle : follow l (aAt l k) ≤ k) : pauses (opAt l (follow l (aAt l k))) := by
  have hg := W.high k hk hj
  by_cases h : aAt l k ≤ k
  · have hp := W.back k hk hj h
    rw [follow_stop (pauses_ne hp)]
    exact hp
  · exact follow_behind W _ _ k (Nat.le_refl _) hg (by omega) hle

/-! ### The loop over all -/
/-- An instruction that names what it comes to. -/
def turned (l : List Ins) (i : Ins) : Ins := if jumps i.op then { i with a := (follow l i.a.toNat : Int) } else i
/-- The first n have been gone over. -/
def partly (l : List Ins) (n : Nat) : List Ins := (l.take n).map (turned l) ++ l.drop n
def threads (l : List Ins) : List Ins := l.map (turned l)
theorem partly_zero (l : List Ins) : partly l 0 = l := by simp [partly]
theorem partly_all (l : List Ins) : partly l l.length = threads l := by simp [partly, threads]
theorem partly_length (l : List Ins) (n : Nat) : (partly l n).length = l.length := by
  simp [partly]
  omega
theorem turned_op (l : List Ins) (i : Ins) : (turned l i).op = i.op := by
  unfold turned; split <;> rfl
theorem partly_get (l : List Ins) (n t : Nat) (ht : t < l.length) : (partly l n).getD t default = if t < n then turned l (l.getD t default) else l.getD t default := by
  unfold partly
  by_cases h : t < n
  · rw [if_pos h, List.getD_eq_getElem?_getD, List.getElem?_append_left (by simp; omega), List.getElem?_map, List.getElem?_take, if_pos h, List.getElem?_eq_getElem ht, List.getD_eq_getElem?_getD, List.getElem?_eq_getElem ht]
    rfl
  · rw [if_neg h, List.getD_eq_getElem?_getD, List.getElem?_append_right (by simp; omega), List.getElem?_drop, List.getD_eq_getElem?_getD]
    congr 2
    simp
    omega
theorem partly_op (l : List Ins) (n t : Nat) : opAt (partly l n) t = opAt l t := by
  by_cases ht : t < l.length
  · unfold opAt
    rw [partly_get l n t ht]
    split
    · exact turned_op _ _
    · rfl
  · unfold opAt
    rw [List.getD_eq_getElem?_getD, List.getElem?_eq_none (by rw [partly_length]; omega), List.getD_eq_getElem?_getD, List.getElem?_eq_none (by omega)]
theorem partly_a (l : List Ins) (n t : Nat) (ht : t < l.length) : aAt (partly l n) t = if t < n ∧ jumps (opAt l t) then follow l (aAt l t) else aAt l t := by
  unfold aAt
  rw [partly_get l n t ht]
  by_cases h : t < n
  · rw [if_pos h]
    unfold turned opAt
    by_cases hj : jumps (l.getD t default).op
    · rw [if_pos hj, if_pos ⟨h, hj⟩]
      simp
    · rw [if_neg hj, if_neg (fun h2 => hj h2.2)]
  · rw [if_neg h, if_neg (fun h2 => h h2.1)]
theorem partly_wf {l : List Ins} (W : WF l) (n : Nat) : WF (partly l n) where
  pos := by rw [partly_length]; exact W.pos
  low := fun k hk hj => by
    rw [partly_length] at hk
    rw [partly_op] at hj
    rw [partly_get l n k hk]
    split
    · unfold turned
      rw [if_pos (show jumps (l.getD k default).op from hj)]
      simp
    · exact W.low k hk hj
  high := fun k hk hj => by
    rw [partly_length] at hk ⊢
    rw [partly_op] at hj
    rw [partly_a l n k hk]
    split
    · exact follow_lt W (W.high k hk hj)
    · exact W.high k hk hj
  back := fun k hk hj hle => by
    rw [partly_length] at hk
    rw [partly_op] at hj
    rw [partly_op]
    rw [partly_a l n k hk] at hle ⊢
    split at hle
    · rename_i h
      rw [if_pos h]
      exact follow_pauses W hk hj hle
    · rename_i h
      rw [if_neg h]
      exact W.back k hk hj hle
  last := by
    rw [partly_length, partly_op]
    exact W.last
/-- What one comes to is the same in code that was gone over in part. -/
theorem partly_follow {l : List Ins} (W : WF l) (n : Nat) : ∀ (m t : Nat), l.length - t ≤ m → t < l.length → follow (partly l n) t = follow l t := by
  intro m
  induction m with
  | zero => intro t h1 h2; omega
  | succ m ih =>
    intro t h1 h2
    have W2 := partly_wf W n
    by_cases hj : opAt l t = 34
    · have hjj : jumps (opAt l t) := by rw [hj]; exact jump_jumps
      have hg := W.high t h2 hjj
      have hj2 : opAt (partly l n) t = 34 := by rw [partly_op]; exact hj
      have h22 : t < (partly l n).length := by rw [partly_length]; exact h2
      rw [follow_step W h2 hj]
      by_cases hn : t < n
      · have ha : aAt (partly l n) t = follow l (aAt l t) := by rw [partly_a l n t h2, if_pos ⟨hn, hjj⟩]
        by_cases hf : t < aAt (partly l n) t
        · rw [follow_on h22 hj2 hf, ha]
          rw [ha] at hf
          rw [ih _ (by omega) (follow_lt W hg), follow_idem W hg]
        · rw [follow_back hj2 (by omega), ha]
      · have ha : aAt (partly l n) t = aAt l t := by rw [partly_a l n t h2, if_neg (fun h => hn h.1)]
        by_cases hf : t < aAt (partly l n) t
        · rw [follow_on h22 hj2 hf, ha]
          rw [ha] at hf
          exact ih _ (by omega) hg
        · rw [follow_back hj2 (by omega), ha]
          rw [ha] at hf
          rw [follow_stop (pauses_ne (W.back t h2 hjj (by omega)))]
    · have hj2 : opAt (partly l n) t ≠ 34 := by rw [partly_op]; exact hj
      rw [follow_stop hj, follow_stop hj2]
/-- Once more: nothing changes. -/
theorem threads_wf {l : List Ins} (W : WF l) : WF (threads l) := by rw [← partly_all]; exact partly_wf W _
theorem threads_to {l : List Ins} (W : WF l) {k : Nat} (hk : k < (threads l).length) (hj : jumps (opAt (threads l) k)) : opAt (threads l) (aAt (threads l) k) ≠ 34 := by
  rw [← partly_all] at *
  rw [partly_length] at hk
  rw [partly_op] at hj ⊢
  rw [partly_a l _ k hk, if_pos ⟨hk, hj⟩]
  exact follow_no W (W.high k hk hj)
theorem ins_same {i : Ins} {x : Nat} (h0 : 0 ≤ i.a) (h : x = i.a.toNat) : { i with a := (x : Int) } = i := by
  cases i
  simp only [Ins.mk.injEq, true_and, and_true] at *
  omega
theorem threads_fix {l : List Ins} (W : WF l) (h : ∀ k, k < l.length → jumps (opAt l k) → opAt l (aAt l k) ≠ 34) : threads l = l := by
  unfold threads
  apply List.ext_getElem
  · simp
  · intro k h1 h2
    rw [List.getElem_map]
    have hg : l.getD k default = l[k] := by rw [List.getD_eq_getElem?_getD, List.getElem?_eq_getElem h2]; rfl
    unfold turned
    by_cases hj : jumps l[k].op
    · rw [if_pos hj]
      have hj2 : jumps (opAt l k) := by unfold opAt; rw [hg]; exact hj
      have h3 := h k h2 hj2
      have h4 := W.low k h2 hj2
      have ha : aAt l k = l[k].a.toNat := by unfold aAt; rw [hg]
      rw [hg] at h4
      rw [ha] at h3
      exact ins_same h4 (follow_stop h3)
    · rw [if_neg hj]
theorem threads_twice {l : List Ins} (W : WF l) : threads (threads l) = threads l := threads_fix (threads_wf W) (fun k hk hj => threads_to W hk hj)
end Go.Proofs.PeepPlain

/- Plain laws of package peep: what is come to; instructions left out. No program in sight. -/
namespace Go.Proofs.PeepPlain
set_option linter.unusedVariables false

/-- What is come to. -/
inductive Reach (l : List Ins) : Nat → Prop where
  | zero : Reach l 0
  | next {k : Nat} : Reach l k → k < l.length → opAt l k ≠ 34 → opAt l k ≠ 50 → Reach l (k + 1)
  | toA {k : Nat} : Reach l k → k < l.length → jumps (opAt l k) → Reach l (aAt l k)
theorem reach_lt {l : List Ins} (W : WF l) {k : Nat} (h : Reach l k) : k < l.length := by
  induction h with
  | zero => exact W.pos
  | @next k _ hk h1 h2 ih =>
    by_cases he : k = l.length - 1
    · subst he
      rcases W.last with h | h
      · exact absurd h h2
      · exact absurd h h1
    · omega
  | toA _ hk hj ih => exact W.high _ hk hj

/-! ### Left out -/
/-- Which ones stay: out tells of each whether it is left out. -/
def kept (out : List Bool) (n : Nat) : List Nat := (List.range n).filter fun k => !out.getD k true
/-- How many stay of the first t. -/
def toIdx (out : List Bool) (t : Nat) : Nat := (kept out t).length
def moved (out : List Bool) (i : Ins) : Ins := if jumps i.op then { i with a := (toIdx out i.a.toNat : Int) } else i
def without (l : List Ins) (out : List Bool) : List Ins := (kept out l.length).map fun k => moved out (l.getD k default)

theorem kept_succ (out : List Bool) (n : Nat) : kept out (n + 1) = kept out n ++ if out.getD n true then [] else [n] := by
  unfold kept
  rw [List.range_succ, List.filter_append]
  congr 1
  cases h : out.getD n true with
  | true => simp only [List.filter_cons, List.filter_nil, h]; rfl
  | false => simp only [List.filter_cons, List.filter_nil, h]; rfl
theorem kept_mem {out : List Bool} {n k : Nat} : k ∈ kept out n ↔ k < n ∧ out.getD k true = false := by
  unfold kept
  simp [List.mem_filter]
theorem toIdx_succ_in {out : List Bool} {t : Nat} (h : out.getD t true = false) : toIdx out (t + 1) = toIdx out t + 1 := by
  unfold toIdx
  rw [kept_succ, h]
  simp
theorem toIdx_succ_out {out : List Bool} {t : Nat} (h : out.getD t true = true) : toIdx out (t + 1) = toIdx out t := by
  unfold toIdx
  rw [kept_succ, h]
  simp
theorem toIdx_le_succ (out : List Bool) (t : Nat) : toIdx out t ≤ toIdx out (t + 1) := by
  cases h : out.getD t true with
  | true => rw [toIdx_succ_out h]; exact Nat.le_refl _
  | false => rw [toIdx_succ_in h]; exact Nat.le_succ _
theorem toIdx_mono (out : List Bool) {s t : Nat} (h : s ≤ t) : toIdx out s ≤ toIdx out t := by
  induction t with
  | zero => have : s = 0 := by omega
            subst this; exact Nat.le_refl _
  | succ t ih =>
    by_cases he : s = t + 1
    · subst he; exact Nat.le_refl _
    · exact Nat.le_trans (ih (by omega)) (toIdx_le_succ out t)
theorem toIdx_lt {out : List Bool} {s t : Nat} (h : s < t) (hs : out.getD s true = false) : toIdx out s < toIdx out t := by
  have h1 := toIdx_mono out (show s + 1 ≤ t from h)
  rw [toIdx_succ_in hs] at h1
  omega
theorem kept_length (out : List Bool) (n : Nat) : (kept out n).length = toIdx out n := rfl
/-- The one that stays as number i is k, where i is how many stay ahead of k. -/
theorem kept_get {out : List Bool} {n k : Nat} (hk : k < n) (h : out.getD k true = false) : (kept out n)[toIdx out k]? = some k := by
  induction n with
  | zero => omega
  | succ n ih =>
    rw [kept_succ]
    by_cases he : k = n
    · subst he
      rw [h, List.getElem?_append_right (by rw [kept_length]; exact Nat.le_refl _), kept_length, Nat.sub_self]
      rfl
    · have hlt := toIdx_lt (out := out) (show k < n by omega) h
      rw [List.getElem?_append_left (by rw [kept_length]; exact hlt)]
      exact ih (by omega)
theorem kept_of {out : List Bool} {n i : Nat} (h : i < toIdx out n) : ∃ k, k < n ∧ out.getD k true = false ∧ toIdx out k = i := by
  induction n with
  | zero => exact absurd h (by simp [toIdx, kept])
  | succ n ih =>
    cases ho : out.getD n true with
    | true =>
      rw [toIdx_succ_out ho] at h
      obtain ⟨k, h1, h2⟩ := ih h
      exact ⟨k, by omega, h2⟩
    | false =>
      by_cases hi : i = toIdx out n
      · exact ⟨n, by omega, ho, hi.symm⟩
      · rw [toIdx_succ_in ho] at h
        obtain ⟨k, h1, h2⟩ := ih (by omega)
        exact ⟨k, by omega, h2⟩
theorem without_length (l : List Ins) (out : List Bool) : (without l out).length = toIdx out l.length := by
  unfold without
  rw [List.length_map, kept_length]
theorem moved_op (out : List Bool) (i : Ins) : (moved out i).op = i.op := by
  unfold moved; split <;> rfl
theorem without_get {l : List Ins} {out : List Bool} {k : Nat} (hk : k < l.length) (h : out.getD k true = false) : (without l out).getD (toIdx out k) default = moved out (l.getD k default) := by
  unfold without
  rw [List.getD_eq_getElem?_getD, List.getElem?_map, kept_get hk h]
  rfl
theorem without_op {l : List Ins} {out : List Bool} {k : Nat} (hk : k < l.length) (h : out.getD k true = false) : opAt (without l out) (toIdx out k) = opAt l k := by
  unfold opAt
  rw [without_get hk h, moved_op]
theorem without_a {l : List Ins} {out : List Bool} {k : Nat} (hk : k < l.length) (h : out.getD k true = false) (hj : jumps (opAt l k)) : ((without l out).getD (toIdx out k) default).a = (toIdx out (aAt l k) : Int) := by
  rw [without_get hk h]
  unfold moved
  rw [if_pos (show jumps (l.getD k default).op from hj)]
  rfl
theorem without_aAt {l : List Ins} {out : List Bool} {k : Nat} (hk : k < l.length) (h : out.getD k true = false) (hj : jumps (opAt l k)) : aAt (without l out) (toIdx out k) = toIdx out (aAt l k) := by
  unfold aAt
  rw [without_a hk h hj]
  rfl
/-- What may be left out. -/
structure May (l : List Ins) (out : List Bool) : Prop where
  some_ : ∃ m, m < l.length ∧ out.getD m true = false
  toA : ∀ k, k < l.length → out.getD k true = false → jumps (opAt l k) → ∃ m, aAt l k ≤ m ∧ m < l.length ∧ out.getD m true = false
  back : ∀ k, k < l.length → out.getD k true = false → jumps (opAt l k) → aAt l k ≤ k → out.getD (aAt l k) true = false
  last : ∀ m, m < l.length → out.getD m true = false → (∀ j, m < j → j < l.length → out.getD j true = true) → opAt l m = 50 ∨ opAt l m = 34
theorem idx_lt {l : List Ins} {out : List Bool} {t m : Nat} (h : t ≤ m) (hm : m < l.length) (ho : out.getD m true = false) : toIdx out t < toIdx out l.length :=
  Nat.lt_of_le_of_lt (toIdx_mono out h) (toIdx_lt hm ho)
theorem without_wf {l : List Ins} {out : List Bool} (W : WF l) (M : May l out) : WF (without l out) where
  pos := by
    obtain ⟨m, h1, h2⟩ := M.some_
    rw [without_length]
    exact Nat.lt_of_le_of_lt (Nat.zero_le _) (idx_lt (Nat.le_refl m) h1 h2)
  low := fun i hi hj => by
    rw [without_length] at hi
    obtain ⟨k, h1, h2, rfl⟩ := kept_of hi
    rw [without_op h1 h2] at hj
    rw [without_a h1 h2 hj]
    omega
  high := fun i hi hj => by
    rw [without_length] at hi ⊢
    obtain ⟨k, h1, h2, rfl⟩ := kept_of hi
    rw [without_op h1 h2] at hj
    rw [without_aAt h1 h2 hj]
    obtain ⟨m, h3, h4, h5⟩ := M.toA k h1 h2 hj
    exact idx_lt h3 h4 h5
  back := fun i hi hj hle => by
    rw [without_length] at hi
    obtain ⟨k, h1, h2, rfl⟩ := kept_of hi
    rw [without_op h1 h2] at hj
    rw [without_aAt h1 h2 hj] at hle ⊢
    by_cases hb : aAt l k ≤ k
    · rw [without_op (W.high k h1 hj) (M.back k h1 h2 hj hb)]
      exact W.back k h1 hj hb
    · have := toIdx_lt (out := out) (show k < aAt l k by omega) h2
      omega
  last := by
    rw [without_length]
    obtain ⟨m0, h1, h2⟩ := M.some_
    have hpos := idx_lt (Nat.le_refl m0) h1 h2
    obtain ⟨k, h3, h4, h5⟩ := kept_of (show toIdx out l.length - 1 < toIdx out l.length by omega)
    rw [← h5, without_op h3 h4]
    refine M.last k h3 h4 (fun j hj hjl => ?_)
    cases ho : out.getD j true with
    | true => rfl
    | false =>
      have a1 := toIdx_lt (out := out) hj h4
      have a2 := toIdx_lt (out := out) hjl ho
      omega

/-! ### What is not come to, and jumps to what is next anyway -/
/-- out tells just that. -/
def Idle (l : List Ins) (out : List Bool) : Prop := out.length = l.length ∧ ∀ k, k < l.length → (out.getD k true = true ↔ ¬ Reach l k ∨ (opAt l k = 34 ∧ aAt l k = k + 1))
theorem idle_kept {l : List Ins} {out : List Bool} (W : WF l) (I : Idle l out) : ∀ (n t : Nat), l.length - t ≤ n → Reach l t → ∃ m, t ≤ m ∧ m < l.length ∧ out.getD m true = false := by
  intro n
  induction n with
  | zero => intro t h1 h2; have := reach_lt W h2; omega
  | succ n ih =>
    intro t h1 h2
    have ht := reach_lt W h2
    cases ho : out.getD t true with
    | false => exact ⟨t, Nat.le_refl _, ht, ho⟩
    | true =>
      rcases (I.2 t ht).1 ho with h | ⟨h3, h4⟩
      · exact absurd h2 h
      · have hr := Reach.toA h2 ht (by rw [h3]; exact jump_jumps)
        rw [h4] at hr
        obtain ⟨m, a, b, c⟩ := ih (t + 1) (by omega) hr
        exact ⟨m, by omega, b, c⟩
theorem idle_reach {l : List Ins} {out : List Bool} (I : Idle l out) {k : Nat} (hk : k < l.length) (h : out.getD k true = false) : Reach l k := by
  apply Classical.byContradiction
  intro hn
  have := (I.2 k hk).2 (.inl hn)
  rw [h] at this
  cases this
theorem idle_may {l : List Ins} {out : List Bool} (W : WF l) (I : Idle l out) : May l out where
  some_ := by
    obtain ⟨m, _, h2, h3⟩ := idle_kept W I _ 0 (Nat.le_refl _) .zero
    exact ⟨m, h2, h3⟩
  toA := fun k hk ho hj => idle_kept W I _ _ (Nat.le_refl _) (.toA (idle_reach I hk ho) hk hj)
  back := fun k hk ho hj hle => by
    have hr := Reach.toA (idle_reach I hk ho) hk hj
    have hp := W.back k hk hj hle
    cases hb : out.getD (aAt l k) true with
    | false => rfl
    | true =>
      rcases (I.2 _ (W.high k hk hj)).1 hb with h | ⟨h, _⟩
      · exact absurd hr h
      · exact absurd h (pauses_ne hp)
  last := fun m hm ho hall => by
    apply Classical.byContradiction
    intro hn
    have hr := Reach.next (idle_reach I hm ho) hm (fun h => hn (.inr h)) (fun h => hn (.inl h))
    obtain ⟨j, a, b, c⟩ := idle_kept W I _ _ (Nat.le_refl _) hr
    have := hall j (by omega) b
    rw [c] at this
    cases this
end Go.Proofs.PeepPlain

/- Plain laws of package peep: constants put together; the whole, and that twice is once. No program in sight. -/
namespace Go.Proofs.PeepPlain
set_option linter.unusedVariables false

/-- What is known of constants and of operations on them: which instruction is one, what is made of one, of two, the instruction that lays one. -/
structure Ops (C : Type) where
  cst : Ins → Option C
  un : ByteArray → C → Option C
  bi : ByteArray → C → C → Option C
  lay : C → Int → Ins
/-- A constant's operation. -/
def flat (op : Int) : Prop := op = 3 ∨ op = 6
structure Ops.Fair {C : Type} (O : Ops C) : Prop where
  cst : ∀ i c, O.cst i = some c → flat i.op
  lay : ∀ c at_, flat (O.lay c at_).op
/-- Where the going over stands: the code, who is named, who is left out, who is left of those gone over (the last one first). -/
structure FSt where
  l : List Ins
  mark : List Bool
  out : List Bool
  ks : List Nat
section
variable {C : Type} (O : Ops C)
def folds (S : FSt) : FSt × Bool :=
  match S.ks with
  | top :: k :: rest =>
    if S.mark.getD top true then (S, false) else
    match O.cst (S.l.getD k default) with
    | none => (S, false)
    | some a =>
      if opAt S.l top = 18 then
        match O.un (S.l.getD top default).text a with
        | some d => (⟨S.l.set k (O.lay d (S.l.getD k default).pos), S.mark, S.out.set top true, k :: rest⟩, true)
        | none => (S, false)
      else if opAt S.l top = 35 then
        if opAt S.l k ≠ 6 then (S, false)
        else if (S.l.getD k default).a = 1 then (⟨S.l, S.mark.set (top + 1) (S.mark.getD (top + 1) true || S.mark.getD k true), (S.out.set top true).set k true, rest⟩, false)
        else (⟨S.l.set k ⟨34, (S.l.getD top default).a, 0, ⟨#[]⟩, (S.l.getD top default).pos⟩, S.mark, S.out.set top true, k :: rest⟩, false)
      else if opAt S.l top = 19 then
        match rest with
        | j :: rest2 =>
          if S.mark.getD k true then (S, false) else
          match O.cst (S.l.getD j default) with
          | none => (S, false)
          | some b =>
            match O.bi (S.l.getD top default).text b a with
            | some d => (⟨S.l.set j (O.lay d (S.l.getD j default).pos), S.mark, (S.out.set top true).set k true, j :: rest2⟩, true)
            | none => (S, false)
        | [] => (S, false)
      else (S, false)
  | _ => (S, false)
/-- folds went through: fewer are left. -/
theorem folds_less (S : FSt) (h : (folds O S).2 = true) : (folds O S).1.ks.length < S.ks.length := by
  revert h
  unfold folds
  split
  · rename_i top k rest hks
    rw [hks]
    split
    · intro h; cases h
    · split
      · intro h; cases h
      · split
        · split
          · intro _; simp
          · intro h; cases h
        · split
          · split
            · intro h; cases h
            · split <;> (intro h; cases h)
          · split
            · split
              · rename_i j rest2 _
                split
                · intro h; cases h
                · split
                  · intro h; cases h
                  · split
                    · intro _; simp
                    · intro h; cases h
              · intro h; cases h
            · intro h; cases h
  · intro h; cases h
/-- As long as it goes. -/
def foldMany (S : FSt) : FSt :=
  if h : (folds O S).2 = true then foldMany (folds O S).1 else (folds O S).1
termination_by S.ks.length
decreasing_by exact folds_less O S h
def foldFrom : List Nat → FSt → FSt
  | [], S => S
  | k :: r, S => foldFrom r (foldMany O ⟨S.l, S.mark, S.out, k :: S.ks⟩)

/-- What holds all the way: what is left out was a constant or an operation on some; what was written over was a constant, and is one, or a jump to where a branch behind it goes. -/
structure Well (l0 : List Ins) (S : FSt) : Prop where
  len : S.l.length = l0.length
  lenO : S.out.length = l0.length
  sorted : ∀ k ∈ S.ks, k < l0.length
  down : S.ks.Pairwise (· > ·)
  gone : ∀ k, S.out.getD k false = true → ¬ pauses (opAt l0 k) ∧ opAt l0 k ≠ 50 ∧ opAt l0 k ≠ 34
  here : ∀ k, k < l0.length → S.l.getD k default = l0.getD k default ∨ flat (opAt l0 k) ∧ (flat (opAt S.l k) ∨ opAt S.l k = 34 ∧ ∃ t, k < t ∧ t < l0.length ∧ opAt l0 t = 35 ∧ (S.l.getD k default).a = (l0.getD t default).a)
  same : (∀ k, S.out.getD k false = false) → S.l = l0
end
theorem set_getD {α : Type} (l : List α) (i j : Nat) (x d : α) : (l.set i x).getD j d = if i = j ∧ j < l.length then x else l.getD j d := by
  rw [List.getD_eq_getElem?_getD, List.getElem?_set]
  by_cases h : i = j
  · subst h
    by_cases h2 : i < l.length
    · simp [h2]
    · simp [h2]
  · simp [h]
theorem flat_ne {op : Int} (h : flat op) : ¬ pauses op ∧ op ≠ 50 ∧ op ≠ 34 ∧ ¬ jumps op := by
  refine ⟨?_, ?_, ?_, ?_⟩
  · rintro (h2 | h2) <;> rcases h with h | h <;> omega
  · rcases h with h | h <;> omega
  · rcases h with h | h <;> omega
  · rintro (h2 | h2 | h2 | h2 | h2) <;> rcases h with h | h <;> omega
section
variable {C : Type} {O : Ops C} {l0 : List Ins}
theorem well_flat (F : O.Fair) {S : FSt} (I : Well l0 S) {k : Nat} (hk : k < l0.length) {c : C} (h : O.cst (S.l.getD k default) = some c) : flat (opAt l0 k) := by
  rcases I.here k hk with e | ⟨h2, _⟩
  · have := F.cst _ _ h
    rw [e] at this
    exact this
  · exact h2
/-- An operation that stands there stood there ahead of all. -/
theorem well_op {S : FSt} (I : Well l0 S) {k : Nat} (hk : k < l0.length) (h1 : ¬ flat (opAt S.l k)) (h2 : opAt S.l k ≠ 34) : S.l.getD k default = l0.getD k default := by
  rcases I.here k hk with e | ⟨_, h | ⟨h, _⟩⟩
  · exact e
  · exact absurd h h1
  · exact absurd h h2
theorem out_set {out : List Bool} {t : Nat} (ht : t < out.length) (k : Nat) : (out.set t true).getD k false = true ↔ k = t ∨ out.getD k false = true := by
  rw [set_getD]
  by_cases h : t = k
  · subst h
    simp [ht]
  · rw [if_neg (fun h2 => h h2.1)]
    constructor
    · exact .inr
    · rintro (h2 | h2)
      · exact absurd h2.symm h
      · exact h2
/-- A constant is written over one, and an operation left out. -/
theorem well_write {S : FSt} (I : Well l0 S) {k top : Nat} {x : Ins} {mark : List Bool} {ks : List Nat} {out : List Bool}
    (hk : k < l0.length) (hf : flat (opAt l0 k)) (hx : flat x.op ∨ x.op = 34 ∧ ∃ t, k < t ∧ t < l0.length ∧ opAt l0 t = 35 ∧ x.a = (l0.getD t default).a)
    (hks : ∀ j ∈ ks, j ∈ S.ks) (hd : ks.Pairwise (· > ·)) (hl : out.length = l0.length) (ho : ∀ j, out.getD j false = true → S.out.getD j false = true ∨ ¬ pauses (opAt l0 j) ∧ opAt l0 j ≠ 50 ∧ opAt l0 j ≠ 34) (ht : out.getD top false = true) : Well l0 ⟨S.l.set k x, mark, out, ks⟩ where
  len := by rw [List.length_set]; exact I.len
  lenO := hl
  sorted := fun j hj => I.sorted j (hks j hj)
  down := hd
  gone := fun j hj => by
    rcases ho j hj with h | h
    · exact I.gone j h
    · exact h
  here := fun j hj => by
    by_cases e : k = j
    · subst e
      right
      have hg : (S.l.set k x).getD k default = x := by rw [set_getD, if_pos ⟨rfl, by rw [I.len]; exact hk⟩]
      refine ⟨hf, ?_⟩
      unfold opAt
      rw [hg]
      exact hx
    · have hg : (S.l.set k x).getD j default = S.l.getD j default := by rw [set_getD, if_neg (fun h => e h.1)]
      unfold opAt
      rw [hg]
      exact I.here j hj
  same := fun h => by
    have := h top
    rw [ht] at this
    cases this
theorem well_drop {S : FSt} (I : Well l0 S) {top : Nat} {mark : List Bool} {ks : List Nat} {out : List Bool}
    (hks : ∀ j ∈ ks, j ∈ S.ks) (hd : ks.Pairwise (· > ·)) (hl : out.length = l0.length) (ho : ∀ j, out.getD j false = true → S.out.getD j false = true ∨ ¬ pauses (opAt l0 j) ∧ opAt l0 j ≠ 50 ∧ opAt l0 j ≠ 34) (ht : out.getD top false = true) : Well l0 ⟨S.l, mark, out, ks⟩ where
  len := I.len
  lenO := hl
  sorted := fun j hj => I.sorted j (hks j hj)
  down := hd
  gone := fun j hj => by
    rcases ho j hj with h | h
    · exact I.gone j h
    · exact h
  here := I.here
  same := fun h => by
    have := h top
    rw [ht] at this
    cases this
theorem op_plain {op n : Int} (h : op = n) (h1 : n ≠ 3) (h2 : n ≠ 6) (h3 : n ≠ 34) : ¬ flat op ∧ op ≠ 34 := by
  subst h
  exact ⟨fun h => by rcases h with h | h; exact h1 h; exact h2 h, h3⟩
theorem op_gone {op n : Int} (h : op = n) (h1 : n ≠ 1) (h2 : n ≠ 2) (h3 : n ≠ 50) (h4 : n ≠ 34) : ¬ pauses op ∧ op ≠ 50 ∧ op ≠ 34 := by
  subst h
  exact ⟨fun h => by rcases h with h | h; exact h1 h; exact h2 h, h3, h4⟩
theorem folds_well (F : O.Fair) {S : FSt} (I : Well l0 S) : Well l0 (folds O S).1 := by
  unfold folds
  split
  · rename_i top k rest hks
    have hin : ∀ j ∈ k :: rest, j ∈ S.ks := fun j hj => by rw [hks]; exact List.mem_cons_of_mem _ hj
    have hin2 : ∀ j ∈ rest, j ∈ S.ks := fun j hj => hin j (List.mem_cons_of_mem _ hj)
    have htop : top < l0.length := I.sorted top (by rw [hks]; simp)
    have hk : k < l0.length := I.sorted k (by rw [hks]; simp)
    have hd := I.down
    rw [hks] at hd
    have hkt : k < top := (List.pairwise_cons.1 hd).1 k (by simp)
    have hd2 : (k :: rest).Pairwise (· > ·) := (List.pairwise_cons.1 hd).2
    have hd3 : rest.Pairwise (· > ·) := (List.pairwise_cons.1 hd2).2
    have hto : top < S.out.length := by rw [I.lenO]; exact htop
    have hko : k < (S.out.set top true).length := by rw [List.length_set, I.lenO]; exact hk
    split
    · exact I
    · split
      · exact I
      · rename_i a ha
        have hfk := well_flat F I hk ha
        split
        · rename_i hop
          have hp := op_plain hop (by decide) (by decide) (by decide)
          have he := well_op I htop hp.1 hp.2
          have hg : opAt l0 top = 18 := by unfold opAt at hop ⊢; rw [← he]; exact hop
          split
          · rename_i d _
            refine well_write I hk hfk (.inl (F.lay _ _)) hin hd2 (by rw [List.length_set, I.lenO]) (fun j hj => ?_) ((out_set hto top).2 (.inl rfl))
            rcases (out_set hto j).1 hj with rfl | h
            · exact .inr (op_gone hg (by decide) (by decide) (by decide) (by decide))
            · exact .inl h
          · exact I
        · split
          · rename_i hop
            have hp := op_plain hop (by decide) (by decide) (by decide)
            have he := well_op I htop hp.1 hp.2
            have hg : opAt l0 top = 35 := by unfold opAt at hop ⊢; rw [← he]; exact hop
            have hgt := op_gone hg (by decide) (by decide) (by decide) (by decide)
            split
            · exact I
            · split
              · refine well_drop (top := top) I hin2 hd3 (by rw [List.length_set, List.length_set, I.lenO]) (fun j hj => ?_) ((out_set hko top).2 (.inr ((out_set hto top).2 (.inl rfl))))
                rcases (out_set hko j).1 hj with rfl | h
                · exact .inr ⟨(flat_ne hfk).1, (flat_ne hfk).2.1, (flat_ne hfk).2.2.1⟩
                · rcases (out_set hto j).1 h with rfl | h
                  · exact .inr hgt
                  · exact .inl h
              · refine well_write I hk hfk (.inr ⟨rfl, top, hkt, htop, hg, ?_⟩) hin hd2 (by rw [List.length_set, I.lenO]) (fun j hj => ?_) ((out_set hto top).2 (.inl rfl))
                · show (S.l.getD top default).a = _
                  rw [he]
                · rcases (out_set hto j).1 hj with rfl | h
                  · exact .inr hgt
                  · exact .inl h
          · split
            · rename_i hop
              have hp := op_plain hop (by decide) (by decide) (by decide)
              have he := well_op I htop hp.1 hp.2
              have hg : opAt l0 top = 19 := by unfold opAt at hop ⊢; rw [← he]; exact hop
              have hgt := op_gone hg (by decide) (by decide) (by decide) (by decide)
              split
              · rename_i j rest2
                have hj : j < l0.length := I.sorted j (hin2 j (by simp))
                split
                · exact I
                · split
                  · exact I
                  · rename_i b hb
                    have hfj := well_flat F I hj hb
                    split
                    · refine well_write (top := top) I hj hfj (.inl (F.lay _ _)) hin2 hd3 (by rw [List.length_set, List.length_set, I.lenO]) (fun i hi => ?_) ((out_set hko top).2 (.inr ((out_set hto top).2 (.inl rfl))))
                      rcases (out_set hko i).1 hi with rfl | h
                      · exact .inr ⟨(flat_ne hfk).1, (flat_ne hfk).2.1, (flat_ne hfk).2.2.1⟩
                      · rcases (out_set hto i).1 h with rfl | h
                        · exact .inr hgt
                        · exact .inl h
                    · exact I
              · exact I
            · exact I
  · exact I
theorem foldMany_well (F : O.Fair) : ∀ (n : Nat) (S : FSt), S.ks.length ≤ n → Well l0 S → Well l0 (foldMany O S) := by
  intro n
  induction n with
  | zero =>
    intro S h I
    rw [foldMany]
    split
    · rename_i h2
      have := folds_less O S h2
      omega
    · exact folds_well F I
  | succ n ih =>
    intro S h I
    rw [foldMany]
    split
    · rename_i h2
      exact ih _ (by have := folds_less O S h2; omega) (folds_well F I)
    · exact folds_well F I
end
end Go.Proofs.PeepPlain
