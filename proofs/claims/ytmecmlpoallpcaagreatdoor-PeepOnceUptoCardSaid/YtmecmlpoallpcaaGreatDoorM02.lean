/- Texts of this proof, put together: PeepShort, PeepFits, PeepKeep. -/
import Derived.Test.YtmecmlpoallpcaaGreatDoorM01
set_option linter.unusedSimpArgs false
/- Plain laws of package peep: a function's code made shorter, and that twice is once. No program in sight. -/
namespace Go.Proofs.PeepPlain
set_option linter.unusedVariables false
section
variable {C : Type} {O : Ops C} {l0 : List Ins}

theorem folds_sub (S : FSt) : ∀ j ∈ (folds O S).1.ks, j ∈ S.ks := by
  unfold folds
  split
  · rename_i top k rest hks
    have e1 : ∀ j ∈ k :: rest, j ∈ S.ks := fun j hj => by rw [hks]; exact List.mem_cons_of_mem _ hj
    have e2 : ∀ j ∈ rest, j ∈ S.ks := fun j hj => e1 j (List.mem_cons_of_mem _ hj)
    split
    · exact fun j hj => hj
    · split
      · exact fun j hj => hj
      · split
        · split
          · exact e1
          · exact fun j hj => hj
        · split
          · split
            · exact fun j hj => hj
            · split
              · exact e2
              · exact e1
          · split
            · split
              · split
                · exact fun j hj => hj
                · split
                  · exact fun j hj => hj
                  · split
                    · exact e2
                    · exact fun j hj => hj
              · exact fun j hj => hj
            · exact fun j hj => hj
  · exact fun j hj => hj
theorem foldMany_sub : ∀ (n : Nat) (S : FSt), S.ks.length ≤ n → ∀ j ∈ (foldMany O S).ks, j ∈ S.ks := by
  intro n
  induction n with
  | zero =>
    intro S h
    rw [foldMany]
    split
    · rename_i h2
      have := folds_less O S h2
      omega
    · exact folds_sub S
  | succ n ih =>
    intro S h
    rw [foldMany]
    split
    · rename_i h2
      exact fun j hj => folds_sub S j (ih _ (by have := folds_less O S h2; omega) j hj)
    · exact folds_sub S
theorem well_push {S : FSt} (I : Well l0 S) {k : Nat} (hk : k < l0.length) (h : ∀ j ∈ S.ks, j < k) : Well l0 ⟨S.l, S.mark, S.out, k :: S.ks⟩ where
  len := I.len
  lenO := I.lenO
  sorted := fun j hj => by rcases List.mem_cons.1 hj with rfl | hj; exact hk; exact I.sorted j hj
  down := List.pairwise_cons.2 ⟨fun j hj => h j hj, I.down⟩
  gone := I.gone
  here := I.here
  same := I.same
theorem foldFrom_well (F : O.Fair) : ∀ (m k : Nat) (S : FSt), Well l0 S → (∀ j ∈ S.ks, j < k) → k + m ≤ l0.length → Well l0 (foldFrom O (List.range' k m) S) := by
  intro m
  induction m with
  | zero => intro k S I _ _; exact I
  | succ m ih =>
    intro k S I h1 h2
    rw [List.range'_succ, foldFrom]
    have I2 := foldMany_well F _ _ (Nat.le_refl _) (well_push I (show k < l0.length by omega) h1)
    refine ih (k + 1) _ I2 (fun j hj => ?_) (by omega)
    have := foldMany_sub (O := O) _ _ (Nat.le_refl _) j hj
    rcases List.mem_cons.1 this with rfl | h
    · omega
    · have := h1 j h; omega
/-- Who is named. -/
noncomputable def marks (l : List Ins) : List Bool := by
  classical
  exact (List.range l.length).map fun t => decide (∃ k, k < l.length ∧ jumps (opAt l k) ∧ aAt l k = t)
def fold0 (l : List Ins) (mk : List Bool) : FSt := ⟨l, mk, List.replicate l.length false, []⟩
noncomputable def folded (O : Ops C) (l : List Ins) : FSt := foldFrom O (List.range' 0 l.length) (fold0 l (marks l))
theorem replicate_no (n k : Nat) : (List.replicate n false).getD k false = false := by
  rw [List.getD_eq_getElem?_getD, List.getElem?_replicate]
  split <;> rfl
theorem fold0_well (l : List Ins) (mk : List Bool) : Well l (fold0 l mk) where
  len := rfl
  lenO := by simp [fold0]
  sorted := fun k hk => by simp [fold0] at hk
  down := List.Pairwise.nil
  gone := fun k hk => by
    simp only [fold0, replicate_no] at hk
    cases hk
  here := fun k _ => .inl rfl
  same := fun _ => rfl
theorem folded_well (F : O.Fair) (l : List Ins) : Well l (folded O l) := foldFrom_well F _ _ _ (fold0_well l _) (fun j hj => by simp [fold0] at hj) (by omega)
/-- What was no constant is as it was. -/
theorem well_stays {S : FSt} (I : Well l0 S) {k : Nat} (hk : k < l0.length) (h : ¬ flat (opAt l0 k)) : S.l.getD k default = l0.getD k default := by
  rcases I.here k hk with e | ⟨h2, _⟩
  · exact e
  · exact absurd h2 h
theorem well_jump {S : FSt} (I : Well l0 S) {k : Nat} (hk : k < l0.length) (hj : jumps (opAt S.l k)) : ∃ t, k ≤ t ∧ t < l0.length ∧ jumps (opAt l0 t) ∧ (S.l.getD k default).a = (l0.getD t default).a := by
  rcases I.here k hk with e | ⟨_, h | ⟨_, t, h1, h2, h3, h4⟩⟩
  · refine ⟨k, Nat.le_refl _, hk, ?_, by rw [e]⟩
    unfold opAt at hj ⊢
    rw [← e]
    exact hj
  · exact absurd hj (flat_ne h).2.2.2
  · exact ⟨t, by omega, h2, by rw [h3]; exact .inr (.inl rfl), h4⟩
theorem well_wf (W : WF l0) {S : FSt} (I : Well l0 S) : WF S.l where
  pos := by rw [I.len]; exact W.pos
  low := fun k hk hj => by
    rw [I.len] at hk
    obtain ⟨t, _, h2, h3, h4⟩ := well_jump I hk hj
    rw [h4]
    exact W.low t h2 h3
  high := fun k hk hj => by
    rw [I.len] at hk ⊢
    obtain ⟨t, _, h2, h3, h4⟩ := well_jump I hk hj
    show (S.l.getD k default).a.toNat < _
    rw [h4]
    exact W.high t h2 h3
  back := fun k hk hj hle => by
    rw [I.len] at hk
    obtain ⟨t, h1, h2, h3, h4⟩ := well_jump I hk hj
    have ea : aAt S.l k = aAt l0 t := by unfold aAt; rw [h4]
    rw [ea] at hle ⊢
    have hp := W.back t h2 h3 (by omega)
    have hs := well_stays I (W.high t h2 h3) (fun h => (flat_ne h).1 hp)
    unfold opAt at hp ⊢
    rw [hs]
    exact hp
  last := by
    have hl : l0.length - 1 < l0.length := by have := W.pos; omega
    have hs := well_stays I hl (fun h => by rcases W.last with h2 | h2; exact (flat_ne h).2.1 h2; exact (flat_ne h).2.2.1 h2)
    rw [I.len]
    have := W.last
    unfold opAt at this ⊢
    rw [hs]
    exact this
theorem getD_tf {out : List Bool} {k n : Nat} (h : out.length = n) (hk : k < n) : out.getD k true = out.getD k false := by
  rw [List.getD_eq_getElem?_getD, List.getD_eq_getElem?_getD, List.getElem?_eq_getElem (by omega)]
  rfl
theorem well_may (W : WF l0) {S : FSt} (I : Well l0 S) : May S.l S.out := by
  have W2 := well_wf W I
  have hl : l0.length - 1 < l0.length := by have := W.pos; omega
  have hlast : S.out.getD (l0.length - 1) true = false := by
    rw [getD_tf I.lenO hl]
    cases h : S.out.getD (l0.length - 1) false with
    | false => rfl
    | true =>
      have := I.gone _ h
      rcases W.last with h2 | h2
      · exact absurd h2 this.2.1
      · exact absurd h2 this.2.2
  have hlen := I.len
  refine ⟨⟨_, by rw [hlen]; exact hl, hlast⟩, fun k hk ho hj => ⟨_, ?_, by rw [hlen]; exact hl, hlast⟩, fun k hk ho hj hle => ?_, fun m hm ho hall => ?_⟩
  · have := W2.high k hk hj
    omega
  · have hp := W2.back k hk hj hle
    have hh := W2.high k hk hj
    rw [hlen] at hh
    rw [getD_tf I.lenO hh]
    cases h : S.out.getD (aAt S.l k) false with
    | false => rfl
    | true =>
      have hg := I.gone _ h
      rcases I.here _ hh with e | ⟨h2, h3 | ⟨h3, _⟩⟩
      · have : opAt S.l (aAt S.l k) = opAt l0 (aAt S.l k) := by unfold opAt; rw [e]
        rw [this] at hp
        exact absurd hp hg.1
      · exact absurd hp (flat_ne h3).1
      · exact absurd h3 (pauses_ne hp)
  · have hm2 : m = S.l.length - 1 := by
      apply Classical.byContradiction
      intro hne
      have := hall (l0.length - 1) (by omega) (by rw [hlen]; exact hl)
      rw [hlast] at this
      cases this
    rw [hm2]
    exact W2.last

/-! ### The whole -/
noncomputable def idle (l : List Ins) : List Bool := by
  classical
  exact (List.range l.length).map fun k => decide (¬ Reach l k ∨ (opAt l k = 34 ∧ aAt l k = k + 1))
theorem idle_is (l : List Ins) : Idle l (idle l) := by
  refine ⟨by simp [idle], fun k hk => ?_⟩
  unfold idle
  rw [List.getD_eq_getElem?_getD, List.getElem?_map, List.getElem?_range hk]
  simp
/-- Is one left out? -/
def Some_ (l : List Ins) (out : List Bool) : Prop := ∃ k, k < l.length ∧ out.getD k true = true
theorem without_less {l : List Ins} {out : List Bool} (h : Some_ l out) : (without l out).length < l.length := by
  obtain ⟨k, hk, ho⟩ := h
  rw [without_length]
  unfold toIdx kept
  have h1 := List.length_filter_le (fun k => !out.getD k true) (List.range l.length)
  rw [List.length_range] at h1
  rcases Nat.lt_or_ge ((List.range l.length).filter (fun k => !out.getD k true)).length l.length with h2 | h2
  · exact h2
  · have h3 := List.length_filter_eq_length_iff.1 (show ((List.range l.length).filter (fun k => !out.getD k true)).length = (List.range l.length).length by rw [List.length_range]; omega) k (List.mem_range.2 hk)
    rw [ho] at h3
    cases h3
theorem threads_length (l : List Ins) : (threads l).length = l.length := by simp [threads]
open Classical in
/-- A function's code, as short as it becomes. -/
noncomputable def shorter (F : O.Fair) (l : List Ins) : List Ins :=
  if h : Some_ (threads l) (idle (threads l)) then shorter F (without (threads l) (idle (threads l)))
  else if h2 : Some_ (folded O (threads l)).l (folded O (threads l)).out then shorter F (without (folded O (threads l)).l (folded O (threads l)).out)
  else (folded O (threads l)).l
termination_by l.length
decreasing_by
  · have := without_less h; rw [threads_length] at this; exact this
  · have h3 := without_less h2
    rw [(folded_well F (threads l)).len, threads_length] at h3
    exact h3
/-- What the end of it is: nothing is threaded, left out or folded any more. -/
structure Done (O : Ops C) (r : List Ins) : Prop where
  wf : WF r
  threads : threads r = r
  idle : ¬ Some_ r (idle r)
  folds : ¬ Some_ r (folded O r).out
  same : (folded O r).l = r
theorem none_out {l : List Ins} {out : List Bool} (hl : out.length = l.length) (h : ¬ Some_ l out) : ∀ k, out.getD k false = false := fun k => by
  by_cases hk : k < l.length
  · rw [← getD_tf hl hk]
    cases ho : out.getD k true with
    | false => rfl
    | true => exact absurd ⟨k, hk, ho⟩ h
  · rw [List.getD_eq_getElem?_getD, List.getElem?_eq_none (by omega)]
    rfl
theorem shorter_done (F : O.Fair) : ∀ (n : Nat) (l : List Ins), l.length ≤ n → WF l → Done O (shorter F l) ∧ (shorter F l).length ≤ l.length := by
  intro n
  induction n with
  | zero => intro l h W; have := W.pos; omega
  | succ n ih =>
    intro l h W
    have Wt := threads_wf W
    have ht := threads_length l
    rw [shorter]
    split
    · rename_i h1
      have hl := without_less h1
      have := ih _ (by omega) (without_wf Wt (idle_may Wt (idle_is _)))
      exact ⟨this.1, by omega⟩
    · rename_i h1
      have I := folded_well F (threads l)
      split
      · rename_i h2
        have hl := without_less h2
        rw [I.len] at hl
        have := ih _ (by omega) (without_wf (well_wf Wt I) (well_may Wt I))
        exact ⟨this.1, by omega⟩
      · rename_i h2
        have hs := I.same (none_out (by rw [I.lenO, I.len]) h2)
        rw [hs] at h2 ⊢
        exact ⟨⟨Wt, threads_twice W, h1, h2, hs⟩, by omega⟩
theorem done_stays (F : O.Fair) {r : List Ins} (D : Done O r) : shorter F r = r := by
  rw [shorter, D.threads, dif_neg D.idle, dif_neg (by rw [D.same]; exact D.folds), D.same]
/-- Twice is once. -/
theorem shorter_twice (F : O.Fair) {l : List Ins} (W : WF l) : shorter F (shorter F l) = shorter F l := done_stays F (shorter_done F _ l (Nat.le_refl _) W).1
end
end Go.Proofs.PeepPlain

/- Plain laws of package peep: the stacks with which each instruction is come to stay, where jumps are threaded and idle ones left out. No program in sight. -/
namespace Go.Proofs.PeepPlain
set_option linter.unusedVariables false

/-- What an instruction does to a stack: what it leaves for the next one, and for the one that it names; none: it does not fit. T: the stacks. -/
structure Eff (T : Type) where
  eff : Ins → T → Option (T × T)
  start : T
  push : T → Option T
/-- What is used of it. -/
structure Eff.Fair {T : Type} (E : Eff T) : Prop where
  turn : ∀ i x s, jumps i.op → E.eff { i with a := x } s = E.eff i s
  jump : ∀ i s, i.op = 34 → E.eff i s = some (s, s)
  flat : ∀ i s, flat i.op → E.eff i s = (E.push s).map fun u => (u, s)
  un : ∀ i s u r, i.op = 18 → E.push s = some u → E.eff i u = some r → r.1 = u
  bi : ∀ i s u w r, i.op = 19 → E.push s = some u → E.push u = some w → E.eff i w = some r → r.1 = u
  branch : ∀ i s u r, i.op = 35 → E.push s = some u → E.eff i u = some r → r = (s, s)
section
variable {T : Type} {E : Eff T}
/-- Instruction k is come to with the stack s. -/
inductive Comes (E : Eff T) (l : List Ins) : Nat → T → Prop where
  | zero : Comes E l 0 E.start
  | next {k : Nat} {s : T} {r : T × T} : Comes E l k s → k < l.length → E.eff (l.getD k default) s = some r → opAt l k ≠ 34 → opAt l k ≠ 50 → Comes E l (k + 1) r.1
  | toA {k : Nat} {s : T} {r : T × T} : Comes E l k s → k < l.length → E.eff (l.getD k default) s = some r → jumps (opAt l k) → Comes E l (aAt l k) r.2
/-- The stack fits. -/
structure Fits (E : Eff T) (l : List Ins) : Prop where
  goes : ∀ k s, k < l.length → Comes E l k s → ∃ r, E.eff (l.getD k default) s = some r
  one : ∀ k s u, Comes E l k s → Comes E l k u → s = u
theorem comes_reach {l : List Ins} {k : Nat} {s : T} (h : Comes E l k s) : Reach l k := by
  induction h with
  | zero => exact .zero
  | next _ h1 _ h3 h4 ih => exact .next ih h1 h3 h4
  | toA _ h1 _ h3 ih => exact .toA ih h1 h3
theorem reach_comes {l : List Ins} (W : WF l) (Ft : Fits E l) {k : Nat} (h : Reach l k) : ∃ s, Comes E l k s := by
  induction h with
  | zero => exact ⟨_, .zero⟩
  | next h0 h1 h3 h4 ih =>
    obtain ⟨s, hs⟩ := ih
    obtain ⟨r, hr⟩ := Ft.goes _ s h1 hs
    exact ⟨_, .next hs h1 hr h3 h4⟩
  | toA h0 h1 h3 ih =>
    obtain ⟨s, hs⟩ := ih
    obtain ⟨r, hr⟩ := Ft.goes _ s h1 hs
    exact ⟨_, .toA hs h1 hr h3⟩
/-- A jump that is come to hands its stack on. -/
theorem comes_jump (F : E.Fair) {l : List Ins} {k : Nat} {s : T} (h : Comes E l k s) (hk : k < l.length) (hj : opAt l k = 34) : Comes E l (aAt l k) s :=
  Comes.toA (r := (s, s)) h hk (F.jump _ s hj) (by rw [hj]; exact jump_jumps)
theorem comes_follow (F : E.Fair) {l : List Ins} (W : WF l) {s : T} : ∀ (n t : Nat), l.length - t ≤ n → t < l.length → Comes E l t s → Comes E l (follow l t) s := by
  intro n
  induction n with
  | zero => intro t h1 h2; omega
  | succ n ih =>
    intro t h1 h2 h
    by_cases hj : opAt l t = 34
    · have hn := comes_jump F h h2 hj
      by_cases hf : t < aAt l t
      · rw [follow_on h2 hj hf]
        exact ih _ (by omega) (W.high t h2 (by rw [hj]; exact jump_jumps)) hn
      · rw [follow_back hj (by omega)]
        exact hn
    · rw [follow_stop hj]
      exact h
theorem threads_op (l : List Ins) (t : Nat) : opAt (threads l) t = opAt l t := by rw [← partly_all]; exact partly_op l _ t
theorem threads_get (l : List Ins) (t : Nat) (ht : t < l.length) : (threads l).getD t default = turned l (l.getD t default) := by
  rw [← partly_all, partly_get l _ t ht, if_pos ht]
theorem threads_a {l : List Ins} {t : Nat} (ht : t < l.length) (hj : jumps (opAt l t)) : aAt (threads l) t = follow l (aAt l t) := by
  rw [← partly_all, partly_a l _ t ht, if_pos ⟨ht, hj⟩]
theorem threads_eff (F : E.Fair) (l : List Ins) (t : Nat) (ht : t < l.length) (s : T) : E.eff ((threads l).getD t default) s = E.eff (l.getD t default) s := by
  rw [threads_get l t ht]
  unfold turned
  split
  · rename_i hj
    exact F.turn _ _ s hj
  · rfl
theorem threads_comes (F : E.Fair) {l : List Ins} (W : WF l) {k : Nat} {s : T} (h : Comes E (threads l) k s) : Comes E l k s := by
  induction h with
  | zero => exact .zero
  | next _ h1 h2 h3 h4 ih =>
    rw [threads_length] at h1
    rw [threads_eff F l _ h1] at h2
    rw [threads_op] at h3 h4
    exact .next ih h1 h2 h3 h4
  | toA _ h1 h2 h3 ih =>
    rw [threads_length] at h1
    rw [threads_eff F l _ h1] at h2
    rw [threads_op] at h3
    rw [threads_a h1 h3]
    exact comes_follow F W _ _ (Nat.le_refl _) (W.high _ h1 h3) (.toA ih h1 h2 h3)
theorem threads_fits (F : E.Fair) {l : List Ins} (W : WF l) (Ft : Fits E l) : Fits E (threads l) where
  goes := fun k s hk h => by
    rw [threads_length] at hk
    rw [threads_eff F l k hk]
    exact Ft.goes k s hk (threads_comes F W h)
  one := fun k s u h1 h2 => Ft.one k s u (threads_comes F W h1) (threads_comes F W h2)

/-! ### Idle ones left out -/
theorem moved_eff (F : E.Fair) (out : List Bool) (i : Ins) (s : T) : E.eff (moved out i) s = E.eff i s := by
  unfold moved
  split
  · rename_i hj
    exact F.turn _ _ s hj
  · rfl
/-- Come to, one comes to the next one that stays, with the same stack. -/
theorem idle_comes (F : E.Fair) {l : List Ins} {out : List Bool} (W : WF l) (I : Idle l out) {s : T} : ∀ (n t : Nat), l.length - t ≤ n → Comes E l t s → ∃ m, t ≤ m ∧ m < l.length ∧ out.getD m true = false ∧ toIdx out m = toIdx out t ∧ Comes E l m s := by
  intro n
  induction n with
  | zero => intro t h1 h2; have := reach_lt W (comes_reach h2); omega
  | succ n ih =>
    intro t h1 h2
    have ht := reach_lt W (comes_reach h2)
    cases ho : out.getD t true with
    | false => exact ⟨t, Nat.le_refl _, ht, ho, rfl, h2⟩
    | true =>
      rcases (I.2 t ht).1 ho with h | ⟨h3, h4⟩
      · exact absurd (comes_reach h2) h
      · have hr := comes_jump F h2 ht h3
        rw [h4] at hr
        obtain ⟨m, a, b, c, d, e⟩ := ih (t + 1) (by omega) hr
        rw [toIdx_succ_out ho] at d
        exact ⟨m, by omega, b, c, d, e⟩
theorem idx_inj {out : List Bool} {j k : Nat} (hj : out.getD j true = false) (hk : out.getD k true = false) (h : toIdx out j = toIdx out k) : j = k := by
  rcases Nat.lt_trichotomy j k with h1 | h1 | h1
  · have := toIdx_lt h1 hj; omega
  · exact h1
  · have := toIdx_lt h1 hk; omega
theorem without_comes (F : E.Fair) {l : List Ins} {out : List Bool} (W : WF l) (I : Idle l out) {i : Nat} {s : T} (h : Comes E (without l out) i s) : ∃ k, k < l.length ∧ out.getD k true = false ∧ toIdx out k = i ∧ Comes E l k s := by
  induction h with
  | zero =>
    obtain ⟨m, _, b, c, d, e⟩ := idle_comes (E := E) F W I _ 0 (Nat.le_refl _) .zero
    exact ⟨m, b, c, by rw [d]; rfl, e⟩
  | next _ h1 h2 h3 h4 ih =>
    obtain ⟨k, a, b, rfl, d⟩ := ih
    rw [without_get a b, moved_eff F] at h2
    rw [without_op a b] at h3 h4
    obtain ⟨m, _, f, g, h, e⟩ := idle_comes (E := E) F W I _ _ (Nat.le_refl _) (.next d a h2 h3 h4)
    exact ⟨m, f, g, by rw [h, toIdx_succ_in b], e⟩
  | toA _ h1 h2 h3 ih =>
    obtain ⟨k, a, b, rfl, d⟩ := ih
    rw [without_get a b, moved_eff F] at h2
    rw [without_op a b] at h3
    rw [without_aAt a b h3]
    obtain ⟨m, _, f, g, h, e⟩ := idle_comes (E := E) F W I _ _ (Nat.le_refl _) (.toA d a h2 h3)
    exact ⟨m, f, g, h, e⟩
theorem without_fits (F : E.Fair) {l : List Ins} {out : List Bool} (W : WF l) (I : Idle l out) (Ft : Fits E l) : Fits E (without l out) where
  goes := fun i s hi h => by
    obtain ⟨k, a, b, rfl, d⟩ := without_comes F W I h
    rw [without_get a b, moved_eff F]
    exact Ft.goes k s a d
  one := fun i s u h1 h2 => by
    obtain ⟨k, a, b, c, d⟩ := without_comes F W I h1
    obtain ⟨j, a2, b2, c2, d2⟩ := without_comes F W I h2
    have := idx_inj b2 b (c2.trans c.symm)
    subst this
    exact Ft.one _ s u d d2
end
end Go.Proofs.PeepPlain

/- Plain laws of package peep: the stacks fit where constants are put together. No program in sight. -/
namespace Go.Proofs.PeepPlain
set_option linter.unusedVariables false

/-- y is the next one behind x that stays. -/
def Skip (out : List Bool) (n x y : Nat) : Prop := x < y ∧ y < n ∧ out.getD y false = false ∧ ∀ z, x < z → z < y → out.getD z false = true
theorem skip_pred {out : List Bool} {n x z t : Nat} (h1 : Skip out n x t) (h2 : Skip out n z t) (hx : out.getD x false = false) (hz : out.getD z false = false) : x = z := by
  rcases Nat.lt_trichotomy x z with h | h | h
  · have := h1.2.2.2 z h h2.1; rw [hz] at this; cases this
  · exact h
  · have := h2.2.2.2 x h h1.1; rw [hx] at this; cases this
theorem skip_det {out : List Bool} {n x y z : Nat} (h1 : Skip out n x y) (h2 : Skip out n x z) : y = z := by
  rcases Nat.lt_trichotomy y z with h | h | h
  · have := h2.2.2.2 y h1.1 h; rw [h1.2.2.1] at this; cases this
  · exact h
  · have := h1.2.2.2 z h2.1 h; rw [h2.2.2.1] at this; cases this
theorem skip_set {out : List Bool} {n x y t : Nat} (ht : t < out.length) (h : Skip (out.set t true) n x y) (hn : out.length = n) (ho : out.getD t false = false) : Skip out n x y ∧ y ≠ t ∨ Skip out n x t ∧ Skip out n t y := by
  obtain ⟨h1, h2, h3, h4⟩ := h
  have hy : y ≠ t ∧ out.getD y false = false := by
    constructor
    · intro e
      subst e
      rw [(out_set ht y).2 (.inl rfl)] at h3
      cases h3
    · cases hb : out.getD y false with
      | false => rfl
      | true => rw [(out_set ht y).2 (.inr hb)] at h3; cases h3
  have hz : ∀ z, x < z → z < y → z ≠ t → out.getD z false = true := fun z a b c => by
    rcases (out_set ht z).1 (h4 z a b) with e | e
    · exact absurd e c
    · exact e
  by_cases hb : x < t ∧ t < y
  · exact .inr ⟨⟨hb.1, by omega, ho, fun z a b => hz z a (by omega) (by omega)⟩, ⟨hb.2, h2, hy.2, fun z a b => hz z (by omega) b (by omega)⟩⟩
  · exact .inl ⟨⟨h1, h2, hy.2, fun z a b => hz z a b (fun e => hb ⟨by omega, by omega⟩)⟩, hy.1⟩
theorem out_set_no {out : List Bool} {t k : Nat} (ht : t < out.length) (h : (out.set t true).getD k false = false) : k ≠ t ∧ out.getD k false = false := by
  constructor
  · intro e
    subst e
    rw [(out_set ht k).2 (.inl rfl)] at h
    cases h
  · cases hb : out.getD k false with
    | false => rfl
    | true => rw [(out_set ht k).2 (.inr hb)] at h; cases h
section
variable {C : Type} {O : Ops C} {T : Type} {E : Eff T} {l0 : List Ins}
/-- What holds of the stacks all the way: f instructions were gone over. -/
structure Keeps (E : Eff T) (l0 : List Ins) (S : FSt) : Prop where
  goes : ∀ x s, x < l0.length → S.out.getD x false = false → Comes E l0 x s → ∃ r, E.eff (S.l.getD x default) s = some r ∧ (opAt S.l x ≠ 34 → opAt S.l x ≠ 50 → ∀ y, Skip S.out l0.length x y → Comes E l0 y r.1) ∧ (jumps (opAt S.l x) → Comes E l0 (aAt S.l x) r.2)
  over : ∀ x s, x < l0.length → S.out.getD x false = true → S.mark.getD x true = true → Comes E l0 x s → ∀ y, Skip S.out l0.length x y → Comes E l0 y s
  named : ∀ k, k < l0.length → jumps (opAt l0 k) → S.mark.getD (aAt l0 k) true = true
  on : ∀ x y, x < l0.length → S.out.getD x false = true → S.mark.getD x true = true → Skip S.out l0.length x y → S.mark.getD y true = true
  first : ∀ y, y < l0.length → S.out.getD y false = false → (∀ z, z < y → S.out.getD z false = true) → Comes E l0 y E.start
/-- How what is left of those gone over stands in the code: f were gone over. -/
structure Rows (l0 : List Ins) (f : Nat) (S : FSt) : Prop where
  all : ∀ x, x < f → (S.out.getD x false = false ↔ x ∈ S.ks)
  rest : ∀ x, f ≤ x → S.out.getD x false = false
  low : ∀ x ∈ S.ks, x < f
  bound : f ≤ l0.length
  lenM : S.mark.length = l0.length
/-- The one on top was just laid there, or is a constant. -/
def Top (f : Nat) (S : FSt) : Prop := ∀ t r, S.ks = t :: r → t + 1 = f ∨ flat (opAt S.l t)
theorem rows_skip {f : Nat} {S : FSt} (R : Rows l0 f S) (I : Well l0 S) {pre rest : List Nat} {a b : Nat} (hks : S.ks = pre ++ a :: b :: rest) : Skip S.out l0.length b a := by
  have hd := I.down
  rw [hks] at hd
  have hd2 := (List.pairwise_append.1 hd).2.1
  have hba : b < a := (List.pairwise_cons.1 hd2).1 b (by simp)
  have ha : a ∈ S.ks := by rw [hks]; simp
  refine ⟨hba, I.sorted a ha, (R.all a (R.low a ha)).2 ha, fun z h1 h2 => ?_⟩
  cases hb : S.out.getD z false with
  | true => rfl
  | false =>
    have hz := (R.all z (by have := R.low a ha; omega)).1 hb
    rw [hks] at hz
    rcases List.mem_append.1 hz with h | h
    · have := (List.pairwise_append.1 hd).2.2 z h a (by simp)
      omega
    · rcases List.mem_cons.1 h with h | h
      · omega
      · rcases List.mem_cons.1 h with h | h
        · omega
        · have := (List.pairwise_cons.1 (List.pairwise_cons.1 hd2).2).1 z h
          omega
theorem flat_push (F : E.Fair) {i : Ins} {s : T} {r : T × T} (hf : flat i.op) (h : E.eff i s = some r) : ∃ u, E.push s = some u ∧ r = (u, s) := by
  rw [F.flat i s hf] at h
  cases hp : E.push s with
  | none => rw [hp] at h; cases h
  | some u =>
    rw [hp] at h
    exact ⟨u, rfl, (Option.some.inj h).symm⟩
theorem push_flat (F : E.Fair) {i : Ins} {s u : T} (hf : flat i.op) (h : E.push s = some u) : E.eff i s = some (u, s) := by
  rw [F.flat i s hf, h]
  rfl
/-- From a constant on one comes to what stays next. -/
theorem const_on (F : E.Fair) {S : FSt} (K : Keeps E l0 S) {k y : Nat} {s : T} (hk : k < l0.length) (ho : S.out.getD k false = false) (hf : flat (opAt S.l k)) (hs : Skip S.out l0.length k y) (h : Comes E l0 k s) : ∃ u, E.push s = some u ∧ Comes E l0 y u := by
  obtain ⟨r, h1, h2, _⟩ := K.goes k s hk ho h
  obtain ⟨u, h3, rfl⟩ := flat_push F hf h1
  exact ⟨u, h3, h2 (flat_ne hf).2.2.1 (flat_ne hf).2.1 y hs⟩
/-- One that is not named is left out, and a constant ahead of it written anew. -/
theorem keeps_one {S : FSt} (K : Keeps E l0 S) (I : Well l0 S) {k top : Nat} {x : Ins} {ks : List Nat}
    (hk : k < l0.length) (ht : top < l0.length) (hok : S.out.getD k false = false) (hot : S.out.getD top false = false) (hm : S.mark.getD top true = false) (hs : Skip S.out l0.length k top)
    (hn : ∀ s, Comes E l0 k s → ∃ r, E.eff x s = some r ∧ (x.op ≠ 34 → x.op ≠ 50 → ∀ y, Skip S.out l0.length top y → Comes E l0 y r.1) ∧ (jumps x.op → Comes E l0 x.a.toNat r.2)) :
    Keeps E l0 ⟨S.l.set k x, S.mark, S.out.set top true, ks⟩ := by
  have hto : top < S.out.length := by rw [I.lenO]; exact ht
  have hskip : ∀ a y, S.out.getD a false = true → S.mark.getD a true = true → a < l0.length → Skip (S.out.set top true) l0.length a y → Skip S.out l0.length a y := fun a y h1 h2 h4 h3 => by
    rcases skip_set hto h3 I.lenO hot with h | ⟨h, _⟩
    · exact h.1
    · have := K.on a top h4 h1 h2 h
      rw [hm] at this
      cases this
  have hold : ∀ a, (S.out.set top true).getD a false = true → S.mark.getD a true = true → S.out.getD a false = true := fun a h1 h2 => by
    rcases (out_set hto a).1 h1 with rfl | h
    · rw [hm] at h2; cases h2
    · exact h
  refine ⟨fun a s ha hoa hc => ?_, fun a s ha hoa hma hc y hy => ?_, K.named, fun a y ha hoa hma hy => ?_, fun y hy hoy hall => ?_⟩
  · obtain ⟨hat, hoa2⟩ := out_set_no hto hoa
    by_cases e : k = a
    · subst e
      have hg : (S.l.set k x).getD k default = x := by rw [set_getD, if_pos ⟨rfl, by rw [I.len]; exact hk⟩]
      obtain ⟨r, h1, h2, h3⟩ := hn s hc
      unfold opAt aAt
      dsimp only
      rw [hg]
      refine ⟨r, h1, fun n1 n2 y hy => ?_, h3⟩
      rcases skip_set hto hy I.lenO hot with ⟨h, h5⟩ | ⟨_, h⟩
      · exact absurd (skip_det h hs) h5
      · exact h2 n1 n2 y h
    · have hg : (S.l.set k x).getD a default = S.l.getD a default := by rw [set_getD, if_neg (fun h => e h.1)]
      obtain ⟨r, h1, h2, h3⟩ := K.goes a s ha hoa2 hc
      unfold opAt aAt at *
      dsimp only at *
      rw [hg]
      refine ⟨r, h1, fun n1 n2 y hy => ?_, h3⟩
      rcases skip_set hto hy I.lenO hot with ⟨h, _⟩ | ⟨h, _⟩
      · exact h2 n1 n2 y h
      · exact absurd (skip_pred hs h hok hoa2) e
  · have ho2 := hold a hoa hma
    exact K.over a s ha ho2 hma hc y (hskip a y ho2 hma ha hy)
  · have ho2 := hold a hoa hma
    exact K.on a y ha ho2 hma (hskip a y ho2 hma ha hy)
  · have hkt := hs.1
    have hyk : y ≤ k := by
      apply Classical.byContradiction
      intro hne
      have := hall k (by omega)
      have h2 : (S.out.set top true).getD k false = false := by rw [set_getD, if_neg (by omega)]; exact hok
      rw [show (S.out.set top true).getD k false = true from this] at h2
      cases h2
    obtain ⟨_, hoy2⟩ := out_set_no hto hoy
    refine K.first y hy hoy2 (fun z hz => ?_)
    rcases (out_set hto z).1 (hall z hz) with e | e
    · omega
    · exact e
theorem skip_two {out : List Bool} {n a y k top : Nat} (hl : out.length = n) (ht : top < n) (hk : k < n) (hot : out.getD top false = false) (hok : out.getD k false = false) (hs : Skip out n k top) (h : Skip ((out.set top true).set k true) n a y) :
    Skip out n a y ∧ y ≠ k ∧ y ≠ top ∨ Skip out n a top ∧ Skip out n top y ∨ Skip out n a k ∧ Skip out n top y := by
  have ht2 : top < out.length := by omega
  have hk2 : k < (out.set top true).length := by rw [List.length_set]; omega
  have hkt := hs.1
  have hok1 : (out.set top true).getD k false = false := by
    rw [set_getD, if_neg (by omega)]; exact hok
  rcases skip_set hk2 h (by rw [List.length_set]; exact hl) hok1 with ⟨h1, h2⟩ | ⟨h1, h2⟩
  · rcases skip_set ht2 h1 hl hot with ⟨h3, h4⟩ | h3
    · exact .inl ⟨h3, h2, h4⟩
    · exact .inr (.inl h3)
  · have h5 : Skip out n a k := by
      rcases skip_set ht2 h1 hl hot with h3 | h3
      · exact h3.1
      · have := h3.2.1; omega
    rcases skip_set ht2 h2 hl hot with ⟨h3, h4⟩ | ⟨_, h3⟩
    · exact absurd (skip_det h3 hs) h4
    · exact .inr (.inr ⟨h5, h3⟩)
theorem two_no {out : List Bool} {k top a : Nat} (ht : top < out.length) (hk : k < out.length) (h : ((out.set top true).set k true).getD a false = false) : a ≠ k ∧ a ≠ top ∧ out.getD a false = false := by
  obtain ⟨h1, h2⟩ := out_set_no (by rw [List.length_set]; exact hk) h
  obtain ⟨h3, h4⟩ := out_set_no ht h2
  exact ⟨h1, h3, h4⟩
theorem two_yes {out : List Bool} {k top a : Nat} (ht : top < out.length) (hk : k < out.length) (h : ((out.set top true).set k true).getD a false = true) : a = k ∨ a = top ∨ out.getD a false = true := by
  rcases (out_set (by rw [List.length_set]; exact hk) a).1 h with h1 | h1
  · exact .inl h1
  · exact .inr ((out_set ht a).1 h1)
/-- Two that are not named are left out, and a constant ahead of them written anew. -/
theorem keeps_two {S : FSt} (K : Keeps E l0 S) (I : Well l0 S) {j k top : Nat} {x : Ins} {ks : List Nat}
    (hj : j < l0.length) (hk : k < l0.length) (ht : top < l0.length) (hoj : S.out.getD j false = false) (hok : S.out.getD k false = false) (hot : S.out.getD top false = false) (hmk : S.mark.getD k true = false) (hmt : S.mark.getD top true = false) (hs1 : Skip S.out l0.length j k) (hs2 : Skip S.out l0.length k top)
    (hn : ∀ s, Comes E l0 j s → ∃ r, E.eff x s = some r ∧ (x.op ≠ 34 → x.op ≠ 50 → ∀ y, Skip S.out l0.length top y → Comes E l0 y r.1) ∧ (jumps x.op → Comes E l0 x.a.toNat r.2)) :
    Keeps E l0 ⟨S.l.set j x, S.mark, (S.out.set top true).set k true, ks⟩ := by
  have hto : top < S.out.length := by rw [I.lenO]; exact ht
  have hko : k < S.out.length := by rw [I.lenO]; exact hk
  have hskip : ∀ a y, S.out.getD a false = true → S.mark.getD a true = true → a < l0.length → Skip ((S.out.set top true).set k true) l0.length a y → Skip S.out l0.length a y := fun a y h1 h2 h4 h3 => by
    rcases skip_two I.lenO ht hk hot hok hs2 h3 with h | ⟨h, _⟩ | ⟨h, _⟩
    · exact h.1
    · have := K.on a top h4 h1 h2 h
      rw [hmt] at this; cases this
    · have := K.on a k h4 h1 h2 h
      rw [hmk] at this; cases this
  have hold : ∀ a, ((S.out.set top true).set k true).getD a false = true → S.mark.getD a true = true → S.out.getD a false = true := fun a h1 h2 => by
    rcases two_yes hto hko h1 with rfl | rfl | h
    · rw [hmk] at h2; cases h2
    · rw [hmt] at h2; cases h2
    · exact h
  refine ⟨fun a s ha hoa hc => ?_, fun a s ha hoa hma hc y hy => ?_, K.named, fun a y ha hoa hma hy => ?_, fun y hy hoy hall => ?_⟩
  · obtain ⟨hak, hat, hoa2⟩ := two_no hto hko hoa
    by_cases e : j = a
    · subst e
      have hg : (S.l.set j x).getD j default = x := by rw [set_getD, if_pos ⟨rfl, by rw [I.len]; exact hj⟩]
      obtain ⟨r, h1, h2, h3⟩ := hn s hc
      unfold opAt aAt
      dsimp only
      rw [hg]
      refine ⟨r, h1, fun n1 n2 y hy => ?_, h3⟩
      rcases skip_two I.lenO ht hk hot hok hs2 hy with ⟨h, h5, _⟩ | ⟨h, _⟩ | ⟨_, h⟩
      · exact absurd (skip_det h hs1) h5
      · have := skip_det h hs1
        have := hs2.1
        omega
      · exact h2 n1 n2 y h
    · have hg : (S.l.set j x).getD a default = S.l.getD a default := by rw [set_getD, if_neg (fun h => e h.1)]
      obtain ⟨r, h1, h2, h3⟩ := K.goes a s ha hoa2 hc
      unfold opAt aAt at *
      dsimp only at *
      rw [hg]
      refine ⟨r, h1, fun n1 n2 y hy => ?_, h3⟩
      rcases skip_two I.lenO ht hk hot hok hs2 hy with ⟨h, _⟩ | ⟨h, _⟩ | ⟨h, _⟩
      · exact h2 n1 n2 y h
      · exact absurd (skip_pred hs2 h hok hoa2).symm hak
      · exact absurd (skip_pred hs1 h hoj hoa2) e
  · have ho2 := hold a hoa hma
    exact K.over a s ha ho2 hma hc y (hskip a y ho2 hma ha hy)
  · have ho2 := hold a hoa hma
    exact K.on a y ha ho2 hma (hskip a y ho2 hma ha hy)
  · have hjk := hs1.1
    have hkt := hs2.1
    have hyj : y ≤ j := by
      apply Classical.byContradiction
      intro hne
      have h1 : ((S.out.set top true).set k true).getD j false = true := hall j (by omega)
      rw [set_getD, if_neg (by omega), set_getD, if_neg (by omega), hoj] at h1
      cases h1
    obtain ⟨_, _, hoy2⟩ := two_no hto hko hoy
    refine K.first y hy hoy2 (fun z hz => ?_)
    rcases two_yes hto hko (hall z hz) with e | e | e
    · omega
    · omega
    · exact e
theorem mark_set {mark : List Bool} {t : Nat} {b : Bool} (k : Nat) (h : mark.getD k true = true) (hb : k = t → b = true) : (mark.set t b).getD k true = true := by
  rw [set_getD]
  split
  · rename_i h2; exact hb h2.1.symm
  · exact h
theorem mark_far {mark : List Bool} {t : Nat} {b : Bool} {k : Nat} (h : k ≠ t) : (mark.set t b).getD k true = mark.getD k true := by
  rw [set_getD, if_neg (fun h2 => h h2.1.symm)]
/-- A constant and the branch behind it are left out: who named the constant names what is behind. -/
theorem keeps_both {S : FSt} (K : Keeps E l0 S) (I : Well l0 S) {f k top : Nat} {ks : List Nat} (hlm : S.mark.length = l0.length)
    (hk : k < l0.length) (ht : top < l0.length) (hf : top + 1 < l0.length) (hrest : ∀ x, top < x → S.out.getD x false = false) (hok : S.out.getD k false = false) (hot : S.out.getD top false = false) (hmt : S.mark.getD top true = false) (hs : Skip S.out l0.length k top)
    (hn : ∀ s, Comes E l0 k s → ∀ y, Skip S.out l0.length top y → Comes E l0 y s) :
    Keeps E l0 ⟨S.l, S.mark.set (top + 1) (S.mark.getD (top + 1) true || S.mark.getD k true), (S.out.set top true).set k true, ks⟩ := by
  have hto : top < S.out.length := by rw [I.lenO]; exact ht
  have hko : k < S.out.length := by rw [I.lenO]; exact hk
  have hkt := hs.1
  have hst : Skip S.out l0.length top (top + 1) := ⟨by omega, hf, hrest _ (by omega), fun z a b => by omega⟩
  have hy1 : ∀ y, Skip S.out l0.length top y → y = top + 1 := fun y h => skip_det h hst
  have hm1 : ∀ x, S.mark.getD x true = true → (S.mark.set (top + 1) (S.mark.getD (top + 1) true || S.mark.getD k true)).getD x true = true := fun x h => mark_set x h (fun e => by subst e; rw [h]; rfl)
  have hmk : S.mark.getD k true = true → (S.mark.set (top + 1) (S.mark.getD (top + 1) true || S.mark.getD k true)).getD (top + 1) true = true := fun h => by
    rw [set_getD, if_pos ⟨rfl, by rw [hlm]; exact hf⟩, h, Bool.or_true]
  have hwas : ∀ a, ((S.out.set top true).set k true).getD a false = true → (S.mark.set (top + 1) (S.mark.getD (top + 1) true || S.mark.getD k true)).getD a true = true → S.mark.getD a true = true ∧ (a = k ∨ S.out.getD a false = true) := fun a h1 h2 => by
    rcases two_yes hto hko h1 with rfl | rfl | h
    · rw [mark_far (by omega)] at h2
      exact ⟨h2, .inl rfl⟩
    · rw [mark_far (by omega), hmt] at h2
      cases h2
    · by_cases e : a = top + 1
      · subst e
        rw [hrest _ (by omega)] at h
        cases h
      · rw [mark_far e] at h2
        exact ⟨h2, .inr h⟩
  refine ⟨fun a s ha hoa hc => ?_, fun a s ha hoa hma hc y hy => ?_, fun i hi hj => hm1 _ (K.named i hi hj), fun a y ha hoa hma hy => ?_, fun y hy hoy hall => ?_⟩
  · obtain ⟨hak, hat, hoa2⟩ := two_no hto hko hoa
    obtain ⟨r, h1, h2, h3⟩ := K.goes a s ha hoa2 hc
    refine ⟨r, h1, fun n1 n2 y hy => ?_, h3⟩
    rcases skip_two I.lenO ht hk hot hok hs hy with ⟨h, _⟩ | ⟨h, _⟩ | ⟨h, h5⟩
    · exact h2 n1 n2 y h
    · exact absurd (skip_pred hs h hok hoa2).symm hak
    · exact hn _ (h2 n1 n2 k h) y h5
  · obtain ⟨h1, h2⟩ := hwas a hoa hma
    rcases h2 with rfl | h2
    · rcases skip_two I.lenO ht hk hot hok hs hy with ⟨h, _, h6⟩ | ⟨_, h⟩ | ⟨h, _⟩
      · exact absurd (skip_det h hs) h6
      · exact hn s hc y h
      · have := h.1; omega
    · rcases skip_two I.lenO ht hk hot hok hs hy with ⟨h, _⟩ | ⟨h, _⟩ | ⟨h, h5⟩
      · exact K.over a s ha h2 h1 hc y h
      · have := K.on a top ha h2 h1 h
        rw [hmt] at this; cases this
      · exact hn s (K.over a s ha h2 h1 hc k h) y h5
  · obtain ⟨h1, h2⟩ := hwas a hoa hma
    rcases h2 with rfl | h2
    · rcases skip_two I.lenO ht hk hot hok hs hy with ⟨h, _, h6⟩ | ⟨_, h⟩ | ⟨h, _⟩
      · exact absurd (skip_det h hs) h6
      · rw [hy1 y h]; exact hmk h1
      · have := h.1; omega
    · rcases skip_two I.lenO ht hk hot hok hs hy with ⟨h, _⟩ | ⟨h, _⟩ | ⟨h, h5⟩
      · exact hm1 y (K.on a y ha h2 h1 h)
      · have := K.on a top ha h2 h1 h
        rw [hmt] at this; cases this
      · rw [hy1 y h5]; exact hmk (K.on a k ha h2 h1 h)
  · obtain ⟨hyk, hyt, hoy2⟩ := two_no hto hko hoy
    have hz : ∀ z, z < y → z ≠ k → z ≠ top → S.out.getD z false = true := fun z a b c => by
      rcases two_yes hto hko (hall z a) with e | e | e
      · exact absurd e b
      · exact absurd e c
      · exact e
    by_cases h : y < k
    · exact K.first y hy hoy2 (fun z a => hz z a (by omega) (by omega))
    · have hck := K.first k hk hok (fun z a => hz z (by omega) (by omega) (by omega))
      have hty : top < y := by
        apply Classical.byContradiction
        intro hne
        have := hs.2.2.2 y (by omega) (by omega)
        rw [hoy2] at this
        cases this
      exact hn _ hck y ⟨hty, hy, hoy2, fun z a b => hz z b (by omega) (by omega)⟩
end
end Go.Proofs.PeepPlain
