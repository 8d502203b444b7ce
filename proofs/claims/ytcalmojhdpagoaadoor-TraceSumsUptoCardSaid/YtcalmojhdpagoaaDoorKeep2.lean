/- What each step does to the state in memory: no walk. -/
import Derived.Test.YtcalmojhdpagoaaDoorKeep
namespace Go.Proofs.YtcalmojhdpagoaaDoor
set_option linter.unusedVariables false
open Go.RowKit

theorem own_ne {w : World} {B e e' : Nat} {size size' n n' : Nat} {v v' : Value} {xs xs' : List Value} (h : w.ownsRow B e size v n xs) (h' : w.ownsRow B e' size' v' n' xs') (hne : e ≠ e') : v.ownBlock = none ∨ v.ownBlock ≠ v'.ownBlock := by
  rcases h.2 with ⟨rfl, _⟩ | ⟨g, cap, cur, rfl, _, hg, _⟩
  · exact .inl rfl
  · right
    rcases h'.2 with ⟨rfl, _⟩ | ⟨g', cap', cur', rfl, _, hg', _⟩
    · simp [Value.ownBlock]
    · intro he
      simp [Value.ownBlock] at he
      subst he
      rw [hg] at hg'
      injection hg' with hg'
      injection hg' with _ ht
      exact hne ht
theorem own_row_ne {w : World} {B e t g size n : Nat} {v : Value} {xs cs : List Value} (h : w.ownsRow B e size v n xs) (hr : Row w g t cs) (hne : e ≠ t) : some g ≠ v.ownBlock := by
  rcases h.2 with ⟨rfl, _⟩ | ⟨g', cap, cur, rfl, _, hg, _⟩
  · simp [Value.ownBlock]
  · intro he
    simp [Value.ownBlock] at he
    subst he
    unfold Row at hr
    rw [hg] at hr
    injection hr with hr
    injection hr with _ ht
    exact hne ht
theorem own_map_ne {w : World} {B e gm size n : Nat} {v : Value} {xs : List Value} {ks : List Key} {vs : List Value} (h : w.ownsRow B e size v n xs) (hr : HasMap w gm ks vs) : some gm ≠ v.ownBlock := by
  rcases h.2 with ⟨rfl, _⟩ | ⟨g', cap, cur, rfl, _, hg, _⟩
  · simp [Value.ownBlock]
  · intro he
    simp [Value.ownBlock] at he
    subst he
    have h2 := hr.2
    rw [hg] at h2
    cases h2

/-- The same rows, in another world that has not turned them. -/
theorem own_same {w w' : World} {B e size n : Nat} {v : Value} {xs : List Value} (h : w.ownsRow B e size v n xs) (hk : ∀ g, v.ownBlock = some g → w'.heap[g]? = w.heap[g]?) : w'.ownsRow B e size v n xs := by
  refine ⟨h.1, ?_⟩
  rcases h.2 with hn | ⟨g, cap, cur, rfl, hb, hg, r⟩
  · exact .inl hn
  · exact .inr ⟨g, cap, cur, rfl, hb, (hk g rfl).trans hg, r⟩
theorem own_setMap {w : World} {B e size n gm : Nat} {v : Value} {xs : List Value} {ks : List Key} {vs : List Value} (h : w.ownsRow B e size v n xs) (hm : HasMap w gm ks vs) (ks' : List Key) (vs' : List Value) : (setMap w gm ks' vs').ownsRow B e size v n xs :=
  own_same h fun g hg => setMap_far w gm ks' vs' g (fun e => own_map_ne h hm (by rw [← e, hg]))
theorem own_setCell {w : World} {B e size n g i t : Nat} {v u : Value} {xs cs : List Value} (h : w.ownsRow B e size v n xs) (hr : Row w g t cs) (hne : e ≠ t) : (w.setCell ⟨g, i, none⟩ u).ownsRow B e size v n xs :=
  own_same h fun k hk => heap_setCell_other w ⟨g, i, none⟩ k u (fun ek => own_row_ne h hr hne (by rw [hk]; exact congrArg some ek.symm))
theorem row_setMap {w : World} {g t gm : Nat} {cs : List Value} {ks : List Key} {vs : List Value} (h : Row w g t cs) (hm : HasMap w gm ks vs) (ks' : List Key) (vs' : List Value) : Row (setMap w gm ks' vs') g t cs :=
  (setMap_far w gm ks' vs' g (fun e => by subst e; unfold Row at h; rw [hm.2] at h; cases h)).trans h

section
variable {w : World} {B gc gm : Nat} {st : St} {allv opv : Value} {vs : List Value}

theorem TS.same {w' : World} (h : TS w B gc gm st allv opv vs) (hs : w.heap.size ≤ w'.heap.size) (hk : ∀ k, k < w.heap.size → w'.heap[k]? = w.heap[k]?) : TS w' B gc gm st allv opv vs where
  row := (hk gc h.row.lt).trans h.row
  all := own_same h.all fun g hg => hk g (h.all.lt g hg).2
  opn := own_same h.opn fun g hg => hk g (h.opn.lt g hg).2
  map := h.map.kept (hk gm h.map.lt)
  each := fun j v x hv hx => own_same (h.each j v x hv hx) fun g hg => hk g ((h.each j v x hv hx).lt g hg).2
  apart := h.apart
  among := h.among
  low := ⟨h.low.1, h.low.2.1, h.low.2.2.1, Nat.le_trans h.low.2.2.2 hs⟩
theorem TS.alloc (h : TS w B gc gm st allv opv vs) (o : Obj) : TS (w.alloc o) B gc gm st allv opv vs := h.same (by simp) fun k hk => Below.heap_alloc w o k hk
theorem TS.drew (h : TS w B gc gm st allv opv vs) : TS w.drew B gc gm st allv opv vs := h.same (Nat.le_refl _) fun _ _ => rfl
theorem TS.drewN (h : TS w B gc gm st allv opv vs) (n : Nat) : TS (w.drewN n) B gc gm st allv opv vs := h.same (Nat.le_refl _) fun _ _ => rfl

/-- A name that is new: an entry without a list. -/
theorem TS.entry (h : TS w B gc gm st allv opv vs) (n : Key) : TS (setMap w gm (st.bg.map (·.1) ++ [n]) (vs ++ [.slice none 0 0])) B gc gm { st with bg := st.bg ++ [(n, [])] } allv opv (vs ++ [.slice none 0 0]) where
  row := row_setMap h.row h.map _ _
  all := own_setMap h.all h.map _ _
  opn := own_setMap h.opn h.map _ _
  map := by
    have := h.map.set (ks' := st.bg.map (·.1) ++ [n]) (vs' := vs ++ [.slice none 0 0]) (by simp; simpa using h.map.1)
    simpa using this
  each := by
    intro j v x hv hx
    have hl : vs.length = st.bg.length := by simpa using h.map.1.symm
    by_cases hj : j < vs.length
    · rw [List.getElem?_append_left hj] at hv
      rw [List.getElem?_append_left (by omega)] at hx
      exact own_setMap (h.each j v x hv hx) h.map _ _
    · have hj' : j = vs.length := by
        have := (List.getElem?_eq_some_iff.1 hv).1
        simp at this; omega
      subst hj'
      rw [hl] at hx
      simp at hv hx
      subst hv hx
      exact World.ownsRow_nil _ _ _ _
  apart := by
    intro j v hv
    by_cases hj : j < vs.length
    · rw [List.getElem?_append_left hj] at hv; exact h.apart j v hv
    · have hj' : j = vs.length := by
        have := (List.getElem?_eq_some_iff.1 hv).1
        simp at this; omega
      subst hj'
      simp at hv; subst hv; exact .inl rfl
  among := by
    intro i j v u hij hv hu
    have key : ∀ (j : Nat) (v : Value), (vs ++ [Value.slice none 0 0])[j]? = some v → vs[j]? = some v ∨ v.ownBlock = none := by
      intro j v hv
      by_cases hj : j < vs.length
      · rw [List.getElem?_append_left hj] at hv; exact .inl hv
      · have hj' : j = vs.length := by
          have := (List.getElem?_eq_some_iff.1 hv).1
          simp at this; omega
        subst hj'
        simp at hv; subst hv; exact .inr rfl
    rcases key i v hv with hv | hv
    · rcases key j u hu with hu | hu
      · exact h.among i j v u hij hv hu
      · cases hb : v.ownBlock with
        | none => exact .inl rfl
        | some g => exact .inr (by rw [hu]; simp)
    · exact .inl hv
  low := ⟨h.low.1, h.low.2.1, h.low.2.2.1, by rw [setMap_size]; exact h.low.2.2.2⟩

/-- The list at the j-th name has become another, in its own row or in a new one. -/
theorem TS.store {w3 : World} (h : TS w B gc gm st allv opv vs) {j : Nat} {v v' : Value} {n : Key} {l l' : List Nat} (hv : vs[j]? = some v) (hx : st.bg[j]? = some (n, l))
    (hg : w.grownBy w3 v.ownBlock) (hown : w3.ownsRow B 3 1 v' l'.length (nats l')) (hat : v'.ownBlock = none ∨ v'.ownBlock = v.ownBlock ∨ ∃ g, v'.ownBlock = some g ∧ w.heap.size ≤ g) :
    TS (setMap w3 gm (st.bg.map (·.1)) (vs.set j v')) B gc gm { st with bg := st.bg.set j (n, l') } allv opv (vs.set j v') := by
  have hvo := h.each j v _ hv hx
  have hm3 : HasMap w3 gm (st.bg.map (·.1)) vs := h.map.kept (hg.block gm h.map.lt (own_map_ne hvo h.map))
  have hfar : ∀ {e size n : Nat} {u : Value} {xs : List Value}, w.ownsRow B e size u n xs → (u.ownBlock = none ∨ u.ownBlock ≠ v.ownBlock) → (setMap w3 gm (st.bg.map (·.1)) (vs.set j v')).ownsRow B e size u n xs := fun ho hne =>
    own_setMap (ho.kept hg hne) hm3 _ _
  have hnew : ∀ {e size n : Nat} {u : Value} {xs : List Value}, w.ownsRow B e size u n xs → (u.ownBlock = none ∨ u.ownBlock ≠ v.ownBlock) → u.ownBlock = none ∨ v'.ownBlock = none ∨ u.ownBlock ≠ v'.ownBlock := fun {e size n u xs} ho hne => by
    rcases hat with ha | ha | ⟨g, ha, hge⟩
    · exact .inr (.inl ha)
    · rcases hne with hne | hne
      · exact .inl hne
      · exact .inr (.inr (by rw [ha]; exact hne))
    · right; right
      rw [ha]
      intro e
      have := (ho.lt g e).2
      omega
  have hmem : ∀ {i : Nat} {u : Value}, (vs.set j v')[i]? = some u → (i = j ∧ u = v') ∨ (i ≠ j ∧ vs[i]? = some u) := fun {i u} hu => by
    by_cases hij : i = j
    · subst hij
      left
      rw [List.getElem?_set_self' ] at hu
      rw [hv] at hu
      simp at hu
      exact ⟨rfl, hu.symm⟩
    · right
      rw [List.getElem?_set_ne (Ne.symm hij)] at hu
      exact ⟨hij, hu⟩
  refine ⟨row_setMap (h.row.grown hg (own_row_ne hvo h.row (by decide))) hm3 _ _, hfar h.all (own_ne h.all hvo (by decide)), hfar h.opn ?_, ?_, ?_, ?_, ?_, ?_⟩
  · rcases h.apart j v hv with ha | ha
    · cases ho : opv.ownBlock with
      | none => exact .inl rfl
      | some g => exact .inr (by rw [ha]; simp)
    · exact .inr (Ne.symm ha)
  · have := hm3.set (ks' := st.bg.map (·.1)) (vs' := vs.set j v') (by simp; simpa using h.map.1)
    have ek : (st.bg.set j (n, l')).map (·.1) = st.bg.map (·.1) := by
      rw [List.map_set]
      apply List.ext_getElem?
      intro i
      by_cases hij : j = i
      · subst hij; rw [List.getElem?_set_self', List.getElem?_map, hx]; rfl
      · rw [List.getElem?_set_ne hij]
    simp only [ek]
    exact this
  · intro i u x hu hx'
    rcases hmem hu with ⟨rfl, rfl⟩ | ⟨hij, hu⟩
    · rw [List.getElem?_set_self', hx] at hx'
      simp at hx'
      subst hx'
      exact own_setMap hown hm3 _ _
    · rw [List.getElem?_set_ne (Ne.symm hij)] at hx'
      have ho := h.each i u x hu hx'
      exact hfar ho (h.among i j u v hij hu hv)
  · intro i u hu
    rcases hmem hu with ⟨rfl, rfl⟩ | ⟨hij, hu⟩
    · rcases hnew h.opn (by
        rcases h.apart i v hv with ha | ha
        · cases ho : opv.ownBlock with
          | none => exact .inl rfl
          | some g => exact .inr (by rw [ha]; simp)
        · exact .inr (Ne.symm ha)) with h1 | h1 | h1
      · cases hb : u.ownBlock with
        | none => exact .inl rfl
        | some g => exact .inr (by rw [h1]; simp)
      · exact .inl h1
      · exact .inr (Ne.symm h1)
    · exact h.apart i u hu
  · intro i k u y hik hu hy
    rcases hmem hu with ⟨rfl, rfl⟩ | ⟨hij, hu2⟩
    · rcases hmem hy with ⟨rfl, rfl⟩ | ⟨hkj, hy2⟩
      · exact absurd rfl hik
      · obtain ⟨x, hx2⟩ : ∃ x, st.bg[k]? = some x := by
          have hl : st.bg.length = vs.length := by simpa using h.map.1
          have := (List.getElem?_eq_some_iff.1 hy2).1
          exact ⟨st.bg[k]'(by omega), List.getElem?_eq_getElem _⟩
        rcases hnew (h.each k y x hy2 hx2) (h.among k i y v hkj hy2 hv) with h1 | h1 | h1
        · cases hb : u.ownBlock with
          | none => exact .inl rfl
          | some g => exact .inr (by rw [h1]; simp)
        · exact .inl h1
        · exact .inr (Ne.symm h1)
    · rcases hmem hy with ⟨rfl, rfl⟩ | ⟨hkj, hy2⟩
      · obtain ⟨x, hx2⟩ : ∃ x, st.bg[i]? = some x := by
          have hl : st.bg.length = vs.length := by simpa using h.map.1
          have := (List.getElem?_eq_some_iff.1 hu2).1
          exact ⟨st.bg[i]'(by omega), List.getElem?_eq_getElem _⟩
        rcases hnew (h.each i u x hu2 hx2) (h.among i k u v hij hu2 hv) with h1 | h1 | h1
        · exact .inl h1
        · cases hb : u.ownBlock with
          | none => exact .inl rfl
          | some g => exact .inr (by rw [h1]; simp)
        · exact .inr h1
      · exact h.among i k u y hik hu2 hy2
  · exact ⟨h.low.1, h.low.2.1, h.low.2.2.1, by rw [setMap_size]; exact Nat.le_trans h.low.2.2.2 hg.size⟩

/-- The open ones have become others, in their row or in a new one. -/
theorem TS.storeOpen {w3 : World} (h : TS w B gc gm st allv opv vs) {opv' : Value} {l' : List Nat} (hg : w.grownBy w3 opv.ownBlock) (hown : w3.ownsRow B 3 1 opv' l'.length (nats l'))
    (hat : opv'.ownBlock = none ∨ opv'.ownBlock = opv.ownBlock ∨ ∃ g, opv'.ownBlock = some g ∧ w.heap.size ≤ g) :
    TS (w3.setCell ⟨gc, 1, none⟩ opv') B gc gm { st with op := l' } allv opv' vs := by
  have hr3 : Row w3 gc 39 [allv, opv, .map (some gm)] := h.row.grown hg (own_row_ne h.opn h.row (by decide))
  refine ⟨hr3.set 1 opv', own_setCell (h.all.kept hg (own_ne h.all h.opn (by decide))) hr3 (by decide), own_setCell hown hr3 (by decide), ?_, ?_, ?_, h.among, ?_⟩
  · exact (h.map.kept (hg.block gm h.map.lt (own_map_ne h.opn h.map))).kept (heap_setCell_other w3 _ gm _ h.low.2.2.1)
  · intro j v x hv hx
    exact own_setCell ((h.each j v x hv hx).kept hg (h.apart j v hv)) hr3 (by decide)
  · intro j v hv
    obtain ⟨x, hx2⟩ : ∃ x, st.bg[j]? = some x := by
      have hl : st.bg.length = vs.length := by simpa using h.map.1
      have := (List.getElem?_eq_some_iff.1 hv).1
      exact ⟨st.bg[j]'(by omega), List.getElem?_eq_getElem _⟩
    rcases hat with ha | ha | ⟨g, ha, hge⟩
    · cases hb : v.ownBlock with
      | none => exact .inl rfl
      | some g => exact .inr (by rw [ha]; simp)
    · rw [ha]; exact h.apart j v hv
    · right
      rw [ha]
      intro e
      have := ((h.each j v x hv hx2).lt g e).2
      omega
  · refine ⟨h.low.1, h.low.2.1, h.low.2.2.1, ?_⟩
    simpa [World.setCell] using Nat.le_trans h.low.2.2.2 hg.size

/-- All calls have become others, in their row or in a new one. -/
theorem TS.storeAll {w3 : World} (h : TS w B gc gm st allv opv vs) {allv' : Value} {l' : List Rec} (hg : w.grownBy w3 allv.ownBlock) (hown : w3.ownsRow B 46 6 allv' l'.length (flatR l')) :
    TS (w3.setCell ⟨gc, 0, none⟩ allv') B gc gm { st with all := l' } allv' opv vs := by
  have hr3 : Row w3 gc 39 [allv, opv, .map (some gm)] := h.row.grown hg (own_row_ne h.all h.row (by decide))
  refine ⟨hr3.set 0 allv', own_setCell hown hr3 (by decide), own_setCell (h.opn.kept hg (own_ne h.opn h.all (by decide))) hr3 (by decide), ?_, ?_, h.apart, h.among, ?_⟩
  · exact (h.map.kept (hg.block gm h.map.lt (own_map_ne h.all h.map))).kept (heap_setCell_other w3 _ gm _ h.low.2.2.1)
  · intro j v x hv hx
    exact own_setCell ((h.each j v x hv hx).kept hg (own_ne (h.each j v x hv hx) h.all (by decide))) hr3 (by decide)
  · refine ⟨h.low.1, h.low.2.1, h.low.2.2.1, ?_⟩
    simpa [World.setCell] using Nat.le_trans h.low.2.2.2 hg.size

/-- A cell of the calls' row is written. -/
theorem TS.setAll (h : TS w B gc gm st allv opv vs) {g c i j : Nat} (ha : allv = .slice (some ⟨g, 0, none⟩) st.all.length c) {u : Value} {f : Rec → Rec} (hj : j < 6) (hf : ∀ r, (f r).cells = r.cells.set j u) (hi : i < st.all.length) :
    TS (w.setCell ⟨g, i * 6 + j, none⟩ u) B gc gm { st with all := st.all.modify i f } allv opv vs := by
  subst ha
  have hg : w.grownBy (w.setCell ⟨g, i * 6 + j, none⟩ u) (some g) := ⟨rfl, rfl, rfl, by simp [World.setCell], fun k hk hne => heap_setCell_other w _ k u (fun e => hne (by rw [e]))⟩
  have hob : (Value.slice (some ⟨g, 0, none⟩) st.all.length c).ownBlock = some g := rfl
  have hown : (w.setCell ⟨g, i * 6 + j, none⟩ u).ownsRow B 46 6 (.slice (some ⟨g, 0, none⟩) (st.all.modify i f).length c) (st.all.modify i f).length (flatR (st.all.modify i f)) := by
    obtain ⟨h1, h2⟩ := h.all
    rcases h2 with ⟨hv, _⟩ | ⟨g', cap, cur, hv, hb, hgg, hnc, hcm, hcs, htk⟩
    · cases hv
    · injection hv with hv1 hv2 hv3
      injection hv1 with hv1
      injection hv1 with hv1
      subst hv1 hv3
      refine ⟨by rw [flatR_length], .inr ⟨g, c, cur.setIfInBounds (i * 6 + j) u, rfl, hb, ?_, by simpa using hnc, hcm, by simpa using hcs, ?_⟩⟩
      · exact heap_setCell_same w g (i * 6 + j) cur 46 u hgg
      · rw [← flatR_set st.all i j u f hj hf hi, ← htk, Array.toList_setIfInBounds, List.length_modify]
        apply List.ext_getElem?
        intro k
        simp only [List.getElem?_take, List.getElem?_set]
        by_cases hk : k < st.all.length * 6
        · simp [hk]
          by_cases he : i * 6 + j = k
          · simp only [he, if_true]
            have : k < cur.size := by rw [hcs]; have := Nat.mul_le_mul_right 6 hnc; omega
            simp [this]
            omega
          · simp [he]
        · simp [hk]
          by_cases he : i * 6 + j = k
          · omega
          · simp [he]
  have hr3 : Row (w.setCell ⟨g, i * 6 + j, none⟩ u) gc 39 [.slice (some ⟨g, 0, none⟩) st.all.length c, opv, .map (some gm)] := h.row.grown hg (own_row_ne h.all h.row (by decide))
  refine ⟨hr3, by simpa using hown, h.opn.kept hg (own_ne h.opn h.all (by decide)), h.map.kept (hg.block gm h.map.lt (own_map_ne h.all h.map)), ?_, h.apart, h.among, ?_⟩
  · intro j' v x hv hx
    exact (h.each j' v x hv hx).kept hg (own_ne (h.each j' v x hv hx) h.all (by decide))
  · exact ⟨h.low.1, h.low.2.1, h.low.2.2.1, by simpa [World.setCell] using h.low.2.2.2⟩
end

theorem putK_at : ∀ {bg : List (Key × List Nat)} {n : Key} {j : Nat} (l' : List Nat), idxK (bg.map (·.1)) n = some j → putK bg n l' = bg.set j (n, l') ∧ ∃ l, bg[j]? = some (n, l) ∧ getK bg n = l
  | [], n, j, l', h => by simp [idxK] at h
  | x :: bg, n, j, l', h => by
    simp only [List.map_cons, idxK] at h
    by_cases hx : x.1 = n
    · rw [if_pos hx] at h
      injection h with h
      subst h
      refine ⟨by simp [putK, hx], x.2, ?_, by simp [getK, hx]⟩
      simp [← hx]
    · rw [if_neg hx] at h
      cases hi : idxK (bg.map (·.1)) n with
      | none => simp [hi] at h
      | some i =>
        simp [hi] at h
        subst h
        obtain ⟨h1, l, h2, h3⟩ := putK_at (bg := bg) l' hi
        refine ⟨by simp [putK, hx, h1], l, by simpa using h2, ?_⟩
        simp only [getK, List.find?_cons] at h3 ⊢
        rw [show decide (x.1 = n) = false by simpa using hx]
        exact h3
theorem putK_new : ∀ {bg : List (Key × List Nat)} {n : Key} (l' : List Nat), idxK (bg.map (·.1)) n = none → putK bg n l' = bg ++ [(n, l')] ∧ getK bg n = []
  | [], n, l', h => by simp [putK, getK]
  | x :: bg, n, l', h => by
    simp only [List.map_cons, idxK] at h
    by_cases hx : x.1 = n
    · rw [if_pos hx] at h; cases h
    · rw [if_neg hx] at h
      have hi : idxK (bg.map (·.1)) n = none := by
        cases hi : idxK (bg.map (·.1)) n with
        | none => rfl
        | some i => simp [hi] at h
      obtain ⟨h1, h2⟩ := putK_new (bg := bg) l' hi
      refine ⟨by simp [putK, hx, h1], ?_⟩
      simp only [getK, List.find?_cons] at h2 ⊢
      rw [show decide (x.1 = n) = false by simpa using hx]
      exact h2
end Go.Proofs.YtcalmojhdpagoaaDoor
