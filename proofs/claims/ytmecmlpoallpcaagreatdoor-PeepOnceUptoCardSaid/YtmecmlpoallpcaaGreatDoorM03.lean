/- Texts of this proof, put together: PeepKeepTwo, PeepEach, PeepDone. -/
import Derived.Test.YtmecmlpoallpcaaGreatDoorM02
set_option linter.unusedSimpArgs false
/- Plain laws of package peep: the stacks fit in a function's code made shorter. No program in sight. -/
namespace Go.Proofs.PeepPlain
set_option linter.unusedVariables false
section
variable {C : Type} {O : Ops C} {T : Type} {E : Eff T} {l0 : List Ins}

theorem rows_drop {f : Nat} {S : FSt} (R : Rows l0 f S) (I : Well l0 S) {top : Nat} {rest : List Nat} (hks : S.ks = top :: rest) {l : List Ins} {mark : List Bool} (hm : mark.length = l0.length) : Rows l0 f ⟨l, mark, S.out.set top true, rest⟩ := by
  have htf : top < f := R.low top (by rw [hks]; simp)
  have hto : top < S.out.length := by rw [I.lenO]; have := R.bound; omega
  have hd := I.down
  rw [hks] at hd
  refine ⟨fun x hx => ?_, fun x hx => ?_, fun x hx => R.low x (by rw [hks]; exact List.mem_cons_of_mem _ hx), R.bound, hm⟩
  · constructor
    · intro h
      obtain ⟨h1, h2⟩ := out_set_no hto h
      have := (R.all x hx).1 h2
      rw [hks] at this
      rcases List.mem_cons.1 this with h3 | h3
      · exact absurd h3 h1
      · exact h3
    · intro h
      have hlt := (List.pairwise_cons.1 hd).1 x h
      show (S.out.set top true).getD x false = false
      rw [set_getD, if_neg (by omega)]
      exact (R.all x hx).2 (by rw [hks]; exact List.mem_cons_of_mem _ h)
  · show (S.out.set top true).getD x false = false
    rw [set_getD, if_neg (by omega)]
    exact R.rest x hx
theorem rows_drop2 {f : Nat} {S : FSt} (R : Rows l0 f S) (I : Well l0 S) {top k : Nat} {rest : List Nat} (hks : S.ks = top :: k :: rest) {l : List Ins} {mark : List Bool} (hm : mark.length = l0.length) : Rows l0 f ⟨l, mark, (S.out.set top true).set k true, rest⟩ := by
  have htf : top < f := R.low top (by rw [hks]; simp)
  have hkf : k < f := R.low k (by rw [hks]; simp)
  have hto : top < S.out.length := by rw [I.lenO]; have := R.bound; omega
  have hko : k < S.out.length := by rw [I.lenO]; have := R.bound; omega
  have hd := I.down
  rw [hks] at hd
  have hd2 := (List.pairwise_cons.1 hd).2
  refine ⟨fun x hx => ?_, fun x hx => ?_, fun x hx => R.low x (by rw [hks]; exact List.mem_cons_of_mem _ (List.mem_cons_of_mem _ hx)), R.bound, hm⟩
  · constructor
    · intro h
      obtain ⟨h1, h2, h3⟩ := two_no hto hko h
      have := (R.all x hx).1 h3
      rw [hks] at this
      rcases List.mem_cons.1 this with h4 | h4
      · exact absurd h4 h2
      · rcases List.mem_cons.1 h4 with h5 | h5
        · exact absurd h5 h1
        · exact h5
    · intro h
      have hl1 := (List.pairwise_cons.1 hd).1 x (List.mem_cons_of_mem _ h)
      have hl2 := (List.pairwise_cons.1 hd2).1 x h
      show ((S.out.set top true).set k true).getD x false = false
      rw [set_getD, if_neg (by omega), set_getD, if_neg (by omega)]
      exact (R.all x hx).2 (by rw [hks]; exact List.mem_cons_of_mem _ (List.mem_cons_of_mem _ h))
  · show ((S.out.set top true).set k true).getD x false = false
    rw [set_getD, if_neg (by omega), set_getD, if_neg (by omega)]
    exact R.rest x hx
/-- What holds behind folds. -/
structure After (O : Ops C) (E : Eff T) (l0 : List Ins) (f : Nat) (S : FSt) : Prop where
  rows : Rows l0 f (folds O S).1
  keeps : Keeps E l0 (folds O S).1
  top : (folds O S).2 = true → Top f (folds O S).1
theorem folds_after (FO : O.Fair) (FE : E.Fair) (W : WF l0) {f : Nat} {S : FSt} (I : Well l0 S) (R : Rows l0 f S) (K : Keeps E l0 S) (Tp : Top f S) : After O E l0 f S := by
  have stay : ∀ b : Bool, b = false → (folds O S) = (S, b) → After O E l0 f S := fun b hb h => ⟨by rw [h]; exact R, by rw [h]; exact K, by rw [h, hb]; intro h2; cases h2⟩
  cases hks : S.ks with
  | nil => exact stay false rfl (by unfold folds; rw [hks])
  | cons top r1 =>
    cases r1 with
    | nil => exact stay false rfl (by unfold folds; rw [hks])
    | cons k rest =>
      have htop : top < l0.length := I.sorted top (by rw [hks]; simp)
      have hk : k < l0.length := I.sorted k (by rw [hks]; simp)
      have hot : S.out.getD top false = false := (R.all top (R.low top (by rw [hks]; simp))).2 (by rw [hks]; simp)
      have hok : S.out.getD k false = false := (R.all k (R.low k (by rw [hks]; simp))).2 (by rw [hks]; simp)
      have hs : Skip S.out l0.length k top := rows_skip (pre := []) R I hks
      have hd := I.down
      rw [hks] at hd
      by_cases hm : S.mark.getD top true = true
      · exact stay false rfl (by unfold folds; rw [hks]; simp only [hm, if_true])
      · have hm0 : S.mark.getD top true = false := by simpa using hm
        cases ha : O.cst (S.l.getD k default) with
        | none => exact stay false rfl (by unfold folds; rw [hks]; simp only [hm0, ha]; rfl)
        | some a =>
          have hfk : flat (opAt S.l k) := FO.cst _ _ ha
          by_cases h18 : opAt S.l top = 18
          · cases hu : O.un (S.l.getD top default).text a with
            | none => exact stay false rfl (by unfold folds; rw [hks]; simp only [hm0, ha, h18, hu]; rfl)
            | some d =>
              have hf : folds O S = (⟨S.l.set k (O.lay d (S.l.getD k default).pos), S.mark, S.out.set top true, k :: rest⟩, true) := by unfold folds; rw [hks]; simp only [hm0, ha, h18, hu]; rfl
              have hlay := FO.lay d (S.l.getD k default).pos
              have hn : ∀ s, Comes E l0 k s → ∃ r, E.eff (O.lay d (S.l.getD k default).pos) s = some r ∧ ((O.lay d (S.l.getD k default).pos).op ≠ 34 → (O.lay d (S.l.getD k default).pos).op ≠ 50 → ∀ y, Skip S.out l0.length top y → Comes E l0 y r.1) ∧ (jumps (O.lay d (S.l.getD k default).pos).op → Comes E l0 (O.lay d (S.l.getD k default).pos).a.toNat r.2) := fun s hc => by
                obtain ⟨u, hu1, hcu⟩ := const_on FE K hk hok hfk hs hc
                obtain ⟨r2, e1, e2, _⟩ := K.goes top u htop hot hcu
                have e3 := FE.un _ s u r2 h18 hu1 e1
                refine ⟨(u, s), push_flat FE hlay hu1, fun _ _ y hy => ?_, fun hj => absurd hj (flat_ne hlay).2.2.2⟩
                have := e2 (by omega) (by omega) y hy
                rw [e3] at this
                exact this
              refine ⟨by rw [hf]; exact rows_drop R I hks R.lenM, by rw [hf]; exact keeps_one K I hk htop hok hot hm0 hs hn, fun _ => ?_⟩
              rw [hf]
              intro t r ht
              injection ht with h1 _
              subst h1
              right
              show flat (opAt (S.l.set k _) k)
              unfold opAt
              rw [set_getD, if_pos ⟨rfl, by rw [I.len]; exact hk⟩]
              exact hlay
          · by_cases h35 : opAt S.l top = 35
            · have htf : top + 1 = f := by
                rcases Tp top _ hks with h | h
                · exact h
                · rcases h with h | h <;> omega
              have hbr : ∀ s, Comes E l0 k s → Comes E l0 (aAt S.l top) s ∧ ∀ y, Skip S.out l0.length top y → Comes E l0 y s := fun s hc => by
                obtain ⟨u, hu1, hcu⟩ := const_on FE K hk hok hfk hs hc
                obtain ⟨r2, e1, e2, e3⟩ := K.goes top u htop hot hcu
                have e4 := FE.branch _ s u r2 h35 hu1 e1
                subst e4
                exact ⟨e3 (by rw [h35]; exact .inr (.inl rfl)), fun y hy => e2 (by omega) (by omega) y hy⟩
              by_cases h6 : opAt S.l k = 6
              · by_cases h1 : (S.l.getD k default).a = 1
                · have hf : folds O S = (⟨S.l, S.mark.set (top + 1) (S.mark.getD (top + 1) true || S.mark.getD k true), (S.out.set top true).set k true, rest⟩, false) := by unfold folds; rw [hks]; simp only [hm0, ha, h35, h6, h1]; rfl
                  have hlt : top + 1 < l0.length := by
                    have hp := op_plain h35 (by decide) (by decide) (by decide)
                    have he := well_op I htop hp.1 hp.2
                    have hg : opAt l0 top = 35 := by unfold opAt at h35 ⊢; rw [← he]; exact h35
                    by_cases hl : top = l0.length - 1
                    · subst hl
                      rcases W.last with h | h <;> omega
                    · omega
                  refine ⟨by rw [hf]; exact rows_drop2 R I hks (by rw [List.length_set]; exact R.lenM), by rw [hf]; exact keeps_both (f := f) K I R.lenM hk htop hlt (fun x hx => R.rest x (by omega)) hok hot hm0 hs (fun s hc => (hbr s hc).2), fun h => by rw [hf] at h; cases h⟩
                · have hf : folds O S = (⟨S.l.set k ⟨34, (S.l.getD top default).a, 0, ⟨#[]⟩, (S.l.getD top default).pos⟩, S.mark, S.out.set top true, k :: rest⟩, false) := by unfold folds; rw [hks]; simp only [hm0, ha, h35, h6, h1]; rfl
                  refine ⟨by rw [hf]; exact rows_drop R I hks R.lenM, by rw [hf]; exact keeps_one K I hk htop hok hot hm0 hs (fun s hc => ⟨(s, s), FE.jump _ s rfl, fun h => absurd rfl h, fun _ => (hbr s hc).1⟩), fun h => by rw [hf] at h; cases h⟩
              · exact stay false rfl (by unfold folds; rw [hks]; simp only [hm0, ha, h35]; simp [h6])
            · by_cases h19 : opAt S.l top = 19
              · cases rest with
                | nil => exact stay false rfl (by unfold folds; rw [hks]; simp only [hm0, ha, h19]; rfl)
                | cons j rest2 =>
                  have hj : j < l0.length := I.sorted j (by rw [hks]; simp)
                  have hoj : S.out.getD j false = false := (R.all j (R.low j (by rw [hks]; simp))).2 (by rw [hks]; simp)
                  have hs1 : Skip S.out l0.length j k := rows_skip (pre := [top]) R I hks
                  by_cases hmk : S.mark.getD k true = true
                  · exact stay false rfl (by unfold folds; rw [hks]; simp only [hm0, ha, h19, hmk]; rfl)
                  · have hmk0 : S.mark.getD k true = false := by simpa using hmk
                    cases hb : O.cst (S.l.getD j default) with
                    | none => exact stay false rfl (by unfold folds; rw [hks]; simp only [hm0, ha, h19, hmk0, hb]; rfl)
                    | some b =>
                      have hfj : flat (opAt S.l j) := FO.cst _ _ hb
                      cases hd2 : O.bi (S.l.getD top default).text b a with
                      | none => exact stay false rfl (by unfold folds; rw [hks]; simp only [hm0, ha, h19, hmk0, hb, hd2]; rfl)
                      | some d =>
                        have hf : folds O S = (⟨S.l.set j (O.lay d (S.l.getD j default).pos), S.mark, (S.out.set top true).set k true, j :: rest2⟩, true) := by unfold folds; rw [hks]; simp only [hm0, ha, h19, hmk0, hb, hd2]; rfl
                        have hlay := FO.lay d (S.l.getD j default).pos
                        have hn : ∀ s, Comes E l0 j s → ∃ r, E.eff (O.lay d (S.l.getD j default).pos) s = some r ∧ ((O.lay d (S.l.getD j default).pos).op ≠ 34 → (O.lay d (S.l.getD j default).pos).op ≠ 50 → ∀ y, Skip S.out l0.length top y → Comes E l0 y r.1) ∧ (jumps (O.lay d (S.l.getD j default).pos).op → Comes E l0 (O.lay d (S.l.getD j default).pos).a.toNat r.2) := fun s hc => by
                          obtain ⟨u, hu1, hcu⟩ := const_on FE K hj hoj hfj hs1 hc
                          obtain ⟨w, hw1, hcw⟩ := const_on FE K hk hok hfk hs hcu
                          obtain ⟨r2, e1, e2, _⟩ := K.goes top w htop hot hcw
                          have e3 := FE.bi _ s u w r2 h19 hu1 hw1 e1
                          refine ⟨(u, s), push_flat FE hlay hu1, fun _ _ y hy => ?_, fun hjj => absurd hjj (flat_ne hlay).2.2.2⟩
                          have := e2 (by omega) (by omega) y hy
                          rw [e3] at this
                          exact this
                        refine ⟨by rw [hf]; exact rows_drop2 R I hks R.lenM, by rw [hf]; exact keeps_two K I hj hk htop hoj hok hot hmk0 hm0 hs1 hs hn, fun _ => ?_⟩
                        rw [hf]
                        intro t r ht
                        injection ht with h1 _
                        subst h1
                        right
                        show flat (opAt (S.l.set j _) j)
                        unfold opAt
                        rw [set_getD, if_pos ⟨rfl, by rw [I.len]; exact hj⟩]
                        exact hlay
              · exact stay false rfl (by unfold folds; rw [hks]; simp only [hm0, ha]; simp [h18, h35, h19])
theorem foldMany_keeps (FO : O.Fair) (FE : E.Fair) (W : WF l0) {f : Nat} : ∀ (n : Nat) (S : FSt), S.ks.length ≤ n → Well l0 S → Rows l0 f S → Keeps E l0 S → Top f S → Rows l0 f (foldMany O S) ∧ Keeps E l0 (foldMany O S) := by
  intro n
  induction n with
  | zero =>
    intro S h I R K Tp
    have A := folds_after FO FE W I R K Tp
    rw [foldMany]
    split
    · rename_i h2
      have := folds_less O S h2
      omega
    · exact ⟨A.rows, A.keeps⟩
  | succ n ih =>
    intro S h I R K Tp
    have A := folds_after FO FE W I R K Tp
    rw [foldMany]
    split
    · rename_i h2
      exact ih _ (by have := folds_less O S h2; omega) (folds_well FO I) A.rows A.keeps (A.top h2)
    · exact ⟨A.rows, A.keeps⟩
theorem rows_push {k : Nat} {S : FSt} (R : Rows l0 k S) (hk : k < l0.length) : Rows l0 (k + 1) ⟨S.l, S.mark, S.out, k :: S.ks⟩ := by
  refine ⟨fun x hx => ?_, fun x hx => R.rest x (by omega), fun x hx => by rcases List.mem_cons.1 hx with rfl | h; omega; have := R.low x h; omega, by omega, R.lenM⟩
  by_cases e : x = k
  · subst e
    exact ⟨fun _ => by simp, fun _ => R.rest x (Nat.le_refl _)⟩
  · rw [show (S.out.getD x false = false ↔ x ∈ S.ks) from R.all x (by omega)]
    constructor
    · exact List.mem_cons_of_mem _
    · intro h
      rcases List.mem_cons.1 h with h | h
      · exact absurd h e
      · exact h
theorem keeps_push {k : Nat} {S : FSt} (K : Keeps E l0 S) : Keeps E l0 ⟨S.l, S.mark, S.out, k :: S.ks⟩ := ⟨K.goes, K.over, K.named, K.on, K.first⟩
theorem foldFrom_keeps (FO : O.Fair) (FE : E.Fair) (W : WF l0) : ∀ (m k : Nat) (S : FSt), Well l0 S → Rows l0 k S → Keeps E l0 S → k + m = l0.length → Keeps E l0 (foldFrom O (List.range' k m) S) := by
  intro m
  induction m with
  | zero => intro k S _ _ K _; exact K
  | succ m ih =>
    intro k S I R K h2
    rw [List.range'_succ, foldFrom]
    have hk : k < l0.length := by omega
    have I1 := well_push I hk (fun j hj => R.low j hj)
    obtain ⟨R2, K2⟩ := foldMany_keeps FO FE W _ _ (Nat.le_refl _) I1 (rows_push R hk) (keeps_push K) (fun t r ht => by injection ht with h1 _; exact .inl (by omega))
    exact ih (k + 1) _ (foldMany_well FO _ _ (Nat.le_refl _) I1) R2 K2 (by omega)
theorem skip_next {n x y : Nat} (h : Skip (List.replicate n false) n x y) : y = x + 1 := by
  obtain ⟨h1, h2, h3, h4⟩ := h
  apply Classical.byContradiction
  intro hne
  have := h4 (x + 1) (by omega) (by omega)
  rw [replicate_no] at this
  cases this
theorem fold0_keeps (FE : E.Fair) (Ft : Fits E l0) (mk : List Bool) (hn : ∀ k, k < l0.length → jumps (opAt l0 k) → mk.getD (aAt l0 k) true = true) : Keeps E l0 (fold0 l0 mk) := by
  refine ⟨fun x s hx _ hc => ?_, fun x s _ h => ?_, hn, fun x y _ h => ?_, fun y _ _ h => ?_⟩
  · obtain ⟨r, hr⟩ := Ft.goes x s hx hc
    refine ⟨r, hr, fun n1 n2 y hy => ?_, fun hj => .toA hc hx hr hj⟩
    have := skip_next hy
    subst this
    exact .next hc hx hr n1 n2
  · simp only [fold0, replicate_no] at h
    cases h
  · simp only [fold0, replicate_no] at h
    cases h
  · have hy0 : y = 0 := by
      apply Classical.byContradiction
      intro hne
      have := h 0 (by omega)
      simp only [fold0, replicate_no] at this
      cases this
    subst hy0
    exact .zero
theorem fold0_rows (mk : List Bool) (h : mk.length = l0.length) : Rows l0 0 (fold0 l0 mk) :=
  ⟨fun x hx => by omega, fun x _ => replicate_no _ _, fun x hx => by simp [fold0] at hx, Nat.zero_le _, h⟩
theorem marks_length (l : List Ins) : (marks l).length = l.length := by simp [marks]
theorem marks_named {l : List Ins} (W : WF l) {k : Nat} (hk : k < l.length) (hj : jumps (opAt l k)) : (marks l).getD (aAt l k) true = true := by
  unfold marks
  rw [List.getD_eq_getElem?_getD, List.getElem?_map, List.getElem?_range (W.high k hk hj)]
  simp
  exact ⟨k, hk, hj, rfl⟩
theorem folded_keeps (FO : O.Fair) (FE : E.Fair) (W : WF l0) (Ft : Fits E l0) : Keeps E l0 (folded O l0) :=
  foldFrom_keeps FO FE W _ 0 _ (fold0_well l0 _) (fold0_rows _ (marks_length l0)) (fold0_keeps FE Ft _ (fun k hk hj => marks_named W hk hj)) (by omega)
/-! ### What is left -/
theorem next_kept {S : FSt} (hl : S.out.length = l0.length) (hlast : S.out.getD (l0.length - 1) false = false) : ∀ (n t : Nat), l0.length - t ≤ n → t < l0.length → ∃ m, t ≤ m ∧ m < l0.length ∧ S.out.getD m false = false ∧ (∀ z, t ≤ z → z < m → S.out.getD z false = true) ∧ toIdx S.out m = toIdx S.out t := by
  intro n
  induction n with
  | zero => intro t h1 h2; omega
  | succ n ih =>
    intro t h1 h2
    cases ho : S.out.getD t false with
    | false => exact ⟨t, Nat.le_refl _, h2, ho, fun z a b => by omega, rfl⟩
    | true =>
      by_cases e : t = l0.length - 1
      · subst e; rw [hlast] at ho; cases ho
      · obtain ⟨m, a, b, c, d, f⟩ := ih (t + 1) (by omega) (by omega)
        refine ⟨m, by omega, b, c, fun z h3 h4 => ?_, ?_⟩
        · by_cases h5 : z = t
          · subst h5; exact ho
          · exact d z (by omega) h4
        · rw [f, toIdx_succ_out (by rw [getD_tf hl h2]; exact ho)]
theorem well_last (W : WF l0) {S : FSt} (I : Well l0 S) : S.out.getD (l0.length - 1) false = false := by
  cases h : S.out.getD (l0.length - 1) false with
  | false => rfl
  | true =>
    have := I.gone _ h
    rcases W.last with h2 | h2
    · exact absurd h2 this.2.1
    · exact absurd h2 this.2.2
theorem keeps_comes (FE : E.Fair) (W : WF l0) {S : FSt} (I : Well l0 S) (K : Keeps E l0 S) {i : Nat} {s : T} (h : Comes E (without S.l S.out) i s) : ∃ k, k < l0.length ∧ S.out.getD k true = false ∧ toIdx S.out k = i ∧ Comes E l0 k s := by
  have hlast := well_last W I
  have step : ∀ t u, t < l0.length → Comes E l0 t u → (S.out.getD t false = true → S.mark.getD t true = true) → ∃ k, k < l0.length ∧ S.out.getD k true = false ∧ toIdx S.out k = toIdx S.out t ∧ Comes E l0 k u := fun t u ht hc hm => by
    obtain ⟨m, a, b, c, d, f⟩ := next_kept I.lenO hlast _ t (Nat.le_refl _) ht
    by_cases e : m = t
    · subst e
      exact ⟨m, b, by rw [getD_tf I.lenO b]; exact c, rfl, hc⟩
    · have hot := d t (Nat.le_refl _) (by omega)
      exact ⟨m, b, by rw [getD_tf I.lenO b]; exact c, f, K.over t u ht hot (hm hot) hc m ⟨by omega, b, c, fun z h1 h2 => d z (by omega) h2⟩⟩
  induction h with
  | zero =>
    obtain ⟨m, a, b, c, d, f⟩ := next_kept I.lenO hlast _ 0 (Nat.le_refl _) W.pos
    exact ⟨m, b, by rw [getD_tf I.lenO b]; exact c, by rw [f]; rfl, K.first m b c (fun z hz => d z (Nat.zero_le _) hz)⟩
  | next _ h1 h2 h3 h4 ih =>
    obtain ⟨k, a, b, rfl, d⟩ := ih
    have a2 : k < S.l.length := by rw [I.len]; exact a
    rw [without_get a2 b, moved_eff FE] at h2
    rw [without_op a2 b] at h3 h4
    have ok : S.out.getD k false = false := by rw [← getD_tf I.lenO a]; exact b
    obtain ⟨r, e1, e2, _⟩ := K.goes k _ a ok d
    rw [h2] at e1
    have e1 := Option.some.inj e1
    subst e1
    have hk1 : k + 1 < l0.length := by
      have W2 := well_wf W I
      by_cases e : k = l0.length - 1
      · have := W2.last
        rw [I.len, ← e] at this
        rcases this with h | h
        · exact absurd h h4
        · exact absurd h h3
      · omega
    obtain ⟨m, p, q, c, z, f⟩ := next_kept I.lenO hlast _ (k + 1) (Nat.le_refl _) hk1
    exact ⟨m, q, by rw [getD_tf I.lenO q]; exact c, by rw [f, toIdx_succ_in b], e2 h3 h4 m ⟨by omega, q, c, fun y h5 h6 => z y (by omega) h6⟩⟩
  | toA _ h1 h2 h3 ih =>
    obtain ⟨k, a, b, rfl, d⟩ := ih
    have a2 : k < S.l.length := by rw [I.len]; exact a
    rw [without_get a2 b, moved_eff FE] at h2
    rw [without_op a2 b] at h3
    rw [without_aAt a2 b h3]
    have ok : S.out.getD k false = false := by rw [← getD_tf I.lenO a]; exact b
    obtain ⟨r, e1, _, e3⟩ := K.goes k _ a ok d
    rw [h2] at e1
    have e1 := Option.some.inj e1
    subst e1
    have hh := (well_wf W I).high k a2 h3
    rw [I.len] at hh
    refine step _ _ hh (e3 h3) (fun _ => ?_)
    obtain ⟨t, _, g1, g2, g3⟩ := well_jump I a h3
    have : aAt S.l k = aAt l0 t := by unfold aAt; rw [g3]
    rw [this]
    exact K.named t g1 g2
theorem folded_fits (FO : O.Fair) (FE : E.Fair) (W : WF l0) (Ft : Fits E l0) : Fits E (without (folded O l0).l (folded O l0).out) := by
  have I := folded_well FO l0
  have K := folded_keeps FO FE W Ft
  refine ⟨fun i s hi h => ?_, fun i s u h1 h2 => ?_⟩
  · obtain ⟨k, a, b, rfl, d⟩ := keeps_comes FE W I K h
    rw [without_get (by rw [I.len]; exact a) b, moved_eff FE]
    obtain ⟨r, e1, _⟩ := K.goes k s a (by rw [← getD_tf I.lenO a]; exact b) d
    exact ⟨r, e1⟩
  · obtain ⟨k, a, b, c, d⟩ := keeps_comes FE W I K h1
    obtain ⟨j, a2, b2, c2, d2⟩ := keeps_comes FE W I K h2
    have := idx_inj b2 b (c2.trans c.symm)
    subst this
    exact Ft.one _ s u d d2
/-- The stack fits in what was made shorter. -/
theorem shorter_fits (FO : O.Fair) (FE : E.Fair) : ∀ (n : Nat) (l : List Ins), l.length ≤ n → WF l → Fits E l → Fits E (shorter FO l) := by
  intro n
  induction n with
  | zero => intro l h W; have := W.pos; omega
  | succ n ih =>
    intro l h W Ft
    have Wt := threads_wf W
    have Ftt := threads_fits FE W Ft
    have ht := threads_length l
    rw [shorter]
    split
    · rename_i h1
      have hl := without_less h1
      exact ih _ (by omega) (without_wf Wt (idle_may Wt (idle_is _))) (without_fits FE Wt (idle_is _) Ftt)
    · have I := folded_well FO (threads l)
      split
      · rename_i h2
        have hl := without_less h2
        rw [I.len] at hl
        exact ih _ (by omega) (without_wf (well_wf Wt I) (well_may Wt I)) (folded_fits FO FE Wt Ftt)
      · rename_i h2
        have hs := I.same (none_out (by rw [I.lenO, I.len]) h2)
        rw [hs]
        exact Ftt
end
end Go.Proofs.PeepPlain

/- Plain laws of package peep: what holds of each instruction, holds of each that is left. No program in sight. -/
namespace Go.Proofs.PeepPlain
set_option linter.unusedVariables false
section
variable {C : Type} {O : Ops C} {P : Ins → Prop}
/-- What stays, whatever is named, whatever is put together. -/
structure Closed (O : Ops C) (P : Ins → Prop) : Prop where
  turn : ∀ i (x : Nat), jumps i.op → P i → P { i with a := (x : Int) }
  un : ∀ i k c d, i.op = 18 → P i → P k → O.cst k = some c → O.un i.text c = some d → P (O.lay d k.pos)
  bi : ∀ i j k b c d, i.op = 19 → P i → P j → P k → O.cst j = some b → O.cst k = some c → O.bi i.text b c = some d → P (O.lay d j.pos)
  branch : ∀ i, i.op = 35 → P i → P ⟨34, i.a, 0, ⟨#[]⟩, i.pos⟩
def All (P : Ins → Prop) (l : List Ins) : Prop := ∀ k, k < l.length → P (l.getD k default)
theorem threads_each (H : Closed O P) {l : List Ins} (h : All P l) : All P (threads l) := fun k hk => by
  rw [threads_length] at hk
  rw [threads_get l k hk]
  unfold turned
  split
  · rename_i hj
    exact H.turn _ _ hj (h k hk)
  · exact h k hk
theorem without_each (H : Closed O P) {l : List Ins} {out : List Bool} (h : All P l) : All P (without l out) := fun i hi => by
  rw [without_length] at hi
  obtain ⟨k, h1, h2, rfl⟩ := kept_of hi
  rw [without_get h1 h2]
  unfold moved
  split
  · rename_i hj
    exact H.turn _ _ hj (h k h1)
  · exact h k h1
theorem set_each {l : List Ins} (h : All P l) (k : Nat) {x : Ins} (hx : P x) : All P (l.set k x) := fun j hj => by
  rw [List.length_set] at hj
  rw [set_getD]
  split
  · exact hx
  · exact h j hj
theorem folds_each (H : Closed O P) {S : FSt} (hk : ∀ k ∈ S.ks, k < S.l.length) (h : All P S.l) : All P (folds O S).1.l ∧ (folds O S).1.l.length = S.l.length := by
  unfold folds
  split
  · rename_i top k rest hks
    have ht : top < S.l.length := hk top (by rw [hks]; simp)
    have hkk : k < S.l.length := hk k (by rw [hks]; simp)
    split
    · exact ⟨h, rfl⟩
    · split
      · exact ⟨h, rfl⟩
      · rename_i a ha
        split
        · rename_i hop
          split
          · rename_i d hd
            exact ⟨set_each h k (H.un _ _ _ _ hop (h top ht) (h k hkk) ha hd), by simp⟩
          · exact ⟨h, rfl⟩
        · split
          · rename_i hop
            split
            · exact ⟨h, rfl⟩
            · split
              · exact ⟨h, rfl⟩
              · exact ⟨set_each h k (H.branch _ hop (h top ht)), by simp⟩
          · split
            · rename_i hop
              split
              · rename_i j rest2
                have hj : j < S.l.length := hk j (by rw [hks]; simp)
                split
                · exact ⟨h, rfl⟩
                · split
                  · exact ⟨h, rfl⟩
                  · rename_i b hb
                    split
                    · rename_i d hd
                      exact ⟨set_each h j (H.bi _ _ _ _ _ _ hop (h top ht) (h j hj) (h k hkk) hb ha hd), by simp⟩
                    · exact ⟨h, rfl⟩
              · exact ⟨h, rfl⟩
            · exact ⟨h, rfl⟩
  · exact ⟨h, rfl⟩
theorem foldMany_each (H : Closed O P) : ∀ (n : Nat) (S : FSt), S.ks.length ≤ n → (∀ k ∈ S.ks, k < S.l.length) → All P S.l → All P (foldMany O S).l ∧ (foldMany O S).l.length = S.l.length := by
  intro n
  induction n with
  | zero =>
    intro S h hk hp
    rw [foldMany]
    split
    · rename_i h2
      have := folds_less O S h2
      omega
    · exact folds_each H hk hp
  | succ n ih =>
    intro S h hk hp
    rw [foldMany]
    have A := folds_each H hk hp
    split
    · rename_i h2
      have B := ih _ (by have := folds_less O S h2; omega) (fun k hkk => by rw [A.2]; exact hk k (folds_sub S k hkk)) A.1
      exact ⟨B.1, B.2.trans A.2⟩
    · exact A
theorem foldFrom_each (H : Closed O P) : ∀ (m k : Nat) (S : FSt), (∀ j ∈ S.ks, j < k) → k + m ≤ S.l.length → All P S.l → All P (foldFrom O (List.range' k m) S).l := by
  intro m
  induction m with
  | zero => intro k S _ _ h; exact h
  | succ m ih =>
    intro k S h1 h2 h
    rw [List.range'_succ, foldFrom]
    have A := foldMany_each (S := ⟨S.l, S.mark, S.out, k :: S.ks⟩) H _ (Nat.le_refl _) (fun j hj => by rcases List.mem_cons.1 hj with rfl | hj; show _ < S.l.length; omega; have := h1 j hj; show _ < S.l.length; omega) h
    refine ih (k + 1) _ (fun j hj => ?_) (by rw [A.2]; show _ ≤ S.l.length; omega) A.1
    have := foldMany_sub (O := O) _ _ (Nat.le_refl _) j hj
    rcases List.mem_cons.1 this with rfl | h3
    · omega
    · have := h1 j h3; omega
theorem folded_each (H : Closed O P) {l : List Ins} (h : All P l) : All P (folded O l).l := foldFrom_each H _ _ _ (fun j hj => by simp [fold0] at hj) (by show 0 + l.length ≤ l.length; omega) h
theorem shorter_each (F : O.Fair) (H : Closed O P) : ∀ (n : Nat) (l : List Ins), l.length ≤ n → All P l → All P (shorter F l) := by
  intro n
  induction n with
  | zero =>
    intro l h hp
    have ht := threads_length l
    have T := threads_each H hp
    rw [shorter]
    split
    · rename_i h1
      have := without_less h1
      omega
    · split
      · rename_i h2
        have := without_less h2
        rw [(folded_well F (threads l)).len] at this
        omega
      · exact folded_each H T
  | succ n ih =>
    intro l h hp
    have ht := threads_length l
    have T := threads_each H hp
    rw [shorter]
    split
    · rename_i h1
      have := without_less h1
      exact ih _ (by omega) (without_each H T)
    · split
      · rename_i h2
        have := without_less h2
        rw [(folded_well F (threads l)).len] at this
        exact ih _ (by omega) (without_each H (folded_each H T))
      · exact folded_each H T
end
end Go.Proofs.PeepPlain

/- Plain laws of package peep: in code that was made shorter nothing can be put together any more. No program in sight. -/
namespace Go.Proofs.PeepPlain
set_option linter.unusedVariables false
section
variable {C : Type} {O : Ops C}
theorem set_true {out : List Bool} {t x : Nat} (h : out.getD x false = true) : (out.set t true).getD x false = true := by
  rw [set_getD]
  split
  · rfl
  · exact h
theorem folds_out (S : FSt) {x : Nat} (h : S.out.getD x false = true) : (folds O S).1.out.getD x false = true := by
  unfold folds
  split
  · split
    · exact h
    · split
      · exact h
      · split
        · split
          · exact set_true h
          · exact h
        · split
          · split
            · exact h
            · split
              · exact set_true (set_true h)
              · exact set_true h
          · split
            · split
              · split
                · exact h
                · split
                  · exact h
                  · split
                    · exact set_true (set_true h)
                    · exact h
              · exact h
            · exact h
  · exact h
theorem foldMany_out : ∀ (n : Nat) (S : FSt), S.ks.length ≤ n → ∀ x, S.out.getD x false = true → (foldMany O S).out.getD x false = true := by
  intro n
  induction n with
  | zero =>
    intro S h x hx
    rw [foldMany]
    split
    · rename_i h2
      have := folds_less O S h2
      omega
    · exact folds_out S hx
  | succ n ih =>
    intro S h x hx
    rw [foldMany]
    split
    · rename_i h2
      exact ih _ (by have := folds_less O S h2; omega) x (folds_out S hx)
    · exact folds_out S hx
theorem foldFrom_out : ∀ (r : List Nat) (S : FSt), ∀ x, S.out.getD x false = true → (foldFrom O r S).out.getD x false = true := by
  intro r
  induction r with
  | nil => intro S x hx; exact hx
  | cons k r ih =>
    intro S x hx
    rw [foldFrom]
    exact ih _ x (foldMany_out _ _ (Nat.le_refl _) x hx)
/-- Nothing is done, or one is left out. -/
theorem folds_or (S : FSt) (hk : ∀ k ∈ S.ks, k < S.out.length) : folds O S = (S, false) ∨ ∃ x, (folds O S).1.out.getD x false = true := by
  unfold folds
  split
  · rename_i top k rest hks
    have ht : top < S.out.length := hk top (by rw [hks]; simp)
    have one : (S.out.set top true).getD top false = true := (out_set ht top).2 (.inl rfl)
    split
    · exact .inl rfl
    · split
      · exact .inl rfl
      · split
        · split
          · exact .inr ⟨top, one⟩
          · exact .inl rfl
        · split
          · split
            · exact .inl rfl
            · split
              · exact .inr ⟨top, set_true one⟩
              · exact .inr ⟨top, one⟩
          · split
            · split
              · split
                · exact .inl rfl
                · split
                  · exact .inl rfl
                  · split
                    · exact .inr ⟨top, set_true one⟩
                    · exact .inl rfl
              · exact .inl rfl
            · exact .inl rfl
  · exact .inl rfl
/-- All up to k, the last one first. -/
def down : Nat → List Nat
  | 0 => []
  | k + 1 => k :: down k
theorem down_lt : ∀ {n k : Nat}, k ∈ down n → k < n
  | 0, k, h => by simp [down] at h
  | n + 1, k, h => by
    rcases List.mem_cons.1 h with rfl | h
    · omega
    · have := down_lt h; omega
noncomputable def still (l : List Ins) (n : Nat) : FSt := ⟨l, marks l, List.replicate l.length false, down n⟩
theorem quiet_from {l : List Ins} : ∀ (m k : Nat), k + m = l.length → (∀ x, (foldFrom O (List.range' k m) (still l k)).out.getD x false = false) → ∀ top, k ≤ top → top < l.length → folds O (still l (top + 1)) = (still l (top + 1), false) := by
  intro m
  induction m with
  | zero => intro k h _ top h1 h2; omega
  | succ m ih =>
    intro k h hq
    rw [List.range'_succ, foldFrom] at hq
    have e1 : (⟨(still l k).l, (still l k).mark, (still l k).out, k :: (still l k).ks⟩ : FSt) = still l (k + 1) := rfl
    rw [e1] at hq
    have hq1 : folds O (still l (k + 1)) = (still l (k + 1), false) := by
      rcases folds_or (O := O) (still l (k + 1)) (fun j hj => by have := down_lt hj; show j < (List.replicate l.length false).length; rw [List.length_replicate]; omega) with h2 | ⟨x, hx⟩
      · exact h2
      · have h3 : (foldMany O (still l (k + 1))).out.getD x false = true := by
          rw [foldMany]
          split
          · exact foldMany_out _ _ (Nat.le_refl _) x hx
          · exact hx
        have h4 := foldFrom_out (O := O) (List.range' (k + 1) m) _ x h3
        rw [hq x] at h4
        cases h4
    have hm : foldMany O (still l (k + 1)) = still l (k + 1) := by
      rw [foldMany, dif_neg (by rw [hq1]; intro h; cases h), hq1]
    rw [hm] at hq
    intro top h1 h2
    by_cases e : top = k
    · subst e; exact hq1
    · exact ih (k + 1) (by omega) hq top (by omega) h2
theorem done_quiet (F : O.Fair) {l : List Ins} (D : Done O l) {top : Nat} (h : top < l.length) : folds O (still l (top + 1)) = (still l (top + 1), false) := by
  have I := folded_well F l
  have hn := none_out I.lenO D.folds
  exact quiet_from l.length 0 (by omega) hn top (Nat.zero_le _) h
/-- What the document says of code that was made shorter. -/
structure Plain (O : Ops C) (l : List Ins) : Prop where
  come : ∀ k, k < l.length → Reach l k
  jump : ∀ k, k < l.length → ¬ (opAt l k = 34 ∧ aAt l k = k + 1)
  one : ∀ k c, k + 1 < l.length → (marks l).getD (k + 1) true = false → opAt l (k + 1) = 18 → O.cst (l.getD k default) = some c → O.un (l.getD (k + 1) default).text c = none
  branch : ∀ k c, k + 1 < l.length → (marks l).getD (k + 1) true = false → opAt l (k + 1) = 35 → O.cst (l.getD k default) = some c → opAt l k ≠ 6
  two : ∀ k b c, k + 2 < l.length → (marks l).getD (k + 1) true = false → (marks l).getD (k + 2) true = false → opAt l (k + 2) = 19 → O.cst (l.getD k default) = some b → O.cst (l.getD (k + 1) default) = some c → O.bi (l.getD (k + 2) default).text b c = none
  toA : ∀ k, k < l.length → jumps (opAt l k) → opAt l (aAt l k) ≠ 34
theorem done_plain (F : O.Fair) {l : List Ins} (D : Done O l) : Plain O l where
  come := fun k hk => by
    apply Classical.byContradiction
    intro h
    exact D.idle ⟨k, hk, ((idle_is l).2 k hk).2 (.inl h)⟩
  jump := fun k hk h => D.idle ⟨k, hk, ((idle_is l).2 k hk).2 (.inr h)⟩
  one := fun k c hk hm hop hc => by
    have q := done_quiet F D hk
    cases hu : O.un (l.getD (k + 1) default).text c with
    | none => rfl
    | some d =>
      have : (folds O (still l (k + 1 + 1))).2 = true := by
        unfold folds still down
        simp only [down, hm, hc, hop, hu]
        rfl
      rw [q] at this
      cases this
  branch := fun k c hk hm hop hc h6 => by
    have q := done_quiet F D hk
    have h1 : (folds O (still l (k + 1 + 1))).1.out.getD (k + 1) false = true := by
      have hlen : k + 1 < (List.replicate l.length false).length := by rw [List.length_replicate]; exact hk
      have one : ((List.replicate l.length false).set (k + 1) true).getD (k + 1) false = true := (out_set hlen (k + 1)).2 (.inl rfl)
      unfold folds still
      simp only [down, hm, hc, hop, h6]
      by_cases ha : (l.getD k default).a = 1
      · simp only [ha]
        exact set_true one
      · simp only [ha]
        exact one
    rw [q] at h1
    simp only [still, replicate_no] at h1
    cases h1
  two := fun k b c hk hm1 hm2 hop hb hc => by
    have q := done_quiet F D hk
    cases hu : O.bi (l.getD (k + 2) default).text b c with
    | none => rfl
    | some d =>
      have : (folds O (still l (k + 2 + 1))).2 = true := by
        unfold folds still
        simp only [down, hm1, hm2, hc, hb, hop, hu]
        rfl
      rw [q] at this
      cases this
  toA := fun k hk hj => by
    have := threads_to D.wf (k := k) (by rw [D.threads]; exact hk) (by rw [D.threads]; exact hj)
    rw [D.threads] at this
    exact this
end
end Go.Proofs.PeepPlain
