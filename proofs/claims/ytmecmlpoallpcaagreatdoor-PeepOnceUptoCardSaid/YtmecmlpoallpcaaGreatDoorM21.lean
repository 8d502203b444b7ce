/- Texts of this proof, put together: FitsA, FitsB. -/
import Derived.Test.YtmecmlpoallpcaaGreatDoorM20
import Derived.WalkMore
set_option linter.all false
/- code.fits: what is known of its memory; a number popped, a stack handed on. -/
namespace Go.Proofs.YtmecmlpoallpcaaGreatDoor
set_option linter.unusedVariables false
open Go.RowKit Go.Proofs.PeepPlain

/-! ### Plain -/
theorem look_mem {T : Type} {E : Eff T} {l : List Ins} {g : List (Option T)} {seen : List Bool} {todo t2 : List Nat} (L : Look E l g seen todo) (h : ∀ j, j ∈ todo ↔ j ∈ t2) : Look E l g seen t2 where
  lenA := L.lenA
  lenS := L.lenS
  zero := L.zero
  comes := L.comes
  want := fun k hk => L.want k ((h k).2 hk)
  done := L.done
  left := fun k s hs => (L.left k s hs).imp id (h k).1
theorem half_mem {T : Type} {E : Eff T} {l : List Ins} {g : List (Option T)} {seen : List Bool} {todo t2 : List Nat} {k : Nat} (L : Half E l g seen todo k) (h : ∀ j, j ∈ todo ↔ j ∈ t2) : Half E l g seen t2 k where
  lenA := L.lenA
  lenS := L.lenS
  zero := L.zero
  comes := L.comes
  want := fun k hk => L.want k ((h k).2 hk)
  done := L.done
  left := fun k s hs => (L.left k s hs).imp id (h k).1
theorem layL_len : ∀ (l s r : List Int), layL l s = some r → r.length ≤ s.length ∨ r.length ≤ 30000
  | [], s, r, h => by simp only [layL] at h; rw [Option.some.inj h]; exact .inl (Nat.le_refl _)
  | c :: l, s, r, h => by
    simp only [layL] at h
    split at h
    · cases h
    · rename_i hn
      rcases layL_len l (c :: s) r h with h2 | h2
      · simp at h2; exact .inr (by omega)
      · exact .inr h2
theorem forms_and : (bytesOf (formOf 36).takes).reverse = [118] ∧ (bytesOf (formOf 37).takes).reverse = [118] := by decide
theorem eff_len {x : Ins} {s : List Int} {r : List Int × List Int} (h : effOf x s = some r) (hs : s.length ≤ 30000) : r.1.length ≤ 30000 ∧ r.2.length ≤ 30000 := by
  rw [eff_def x s _ rfl] at h
  simp only [Option.bind_eq_some_iff, Option.map_eq_some_iff] at h
  obtain ⟨s1, h1, s2, h2, s3, h3, rfl⟩ := h
  have l1 := lessN_len _ _ _ h1
  have l2 := lessL_len _ _ _ h2
  refine ⟨by rcases layL_len _ _ _ h3 with h | h <;> simp only <;> omega, ?_⟩
  simp only
  split
  · rename_i hop
    have hb : (bytesOf (formOf x.op).takes).reverse = [118] := by
      rcases hop with h | h
      · rw [h]; exact forms_and.1
      · rw [h]; exact forms_and.2
    rw [hb] at h2
    simp only [lessL, Option.bind_eq_some_iff] at h2
    obtain ⟨u, h4, h5⟩ := h2
    have e := Option.some.inj h5
    cases s1 with
    | nil => simp [lessN] at h4
    | cons t s1 =>
      rw [lessN_one] at h4
      split at h4
      · have := Option.some.inj h4
        subst this e
        simp at *
        omega
      · cases h4
  · omega
theorem comes_len {l : List Ins} {k : Nat} {s : List Int} (h : PeepPlain.Comes E0 l k s) : s.length ≤ 30000 := by
  induction h with
  | zero => show ([] : List Int).length ≤ _; simp
  | next _ _ he _ _ ih => exact (eff_len he ih).1
  | toA _ _ he _ ih => exact (eff_len he ih).2

/-! ### Memory -/
def seenI (l : List Bool) : List Int := l.map fun b => if b then 1 else 0
/-- A list of numbers as indices. -/
def idx (l : List Int) : List Nat := l.map Int.toNat
structure Mid (Bo A V n : Nat) (keep : List Nat) (w : World) (R : Rep) (ptrs : List (Option Addr)) (given : List (Option (List Int))) (todo : List Int) (v : Value) : Prop where
  at_ : Row w A 103 (ptrC ptrs)
  len : ptrs.length = n
  glen : given.length = n
  pts : ∀ k, k < n → OptPt R (ptrs.getD k none) (given.getD k none)
  held : Held Bo w V 44 v todo
  nodes : Nodes Bo w R
  low : Bo ≤ w.heap.size
  far : ∀ x ∈ A :: V :: keep, R x = none
  own : ∀ g, v.ownBlock = some g → R g = none ∧ g ∉ A :: keep
  kdis : ∀ x ∈ keep, x ≠ A ∧ x ≠ V ∧ x < w.heap.size
  av : A ≠ V
  pos : ∀ t ∈ todo, 0 ≤ t
section
variable {Bo A V n : Nat} {keep : List Nat} {w w' : World} {R R' : Rep} {ptrs : List (Option Addr)} {given : List (Option (List Int))} {todo : List Int} {v : Value}
theorem optPt_keep {o : Option Addr} {s : Option (List Int)} (h : OptPt R o s) (hk : ∀ k s, R k = some s → R' k = some s) : OptPt R' o s := by
  cases s with
  | none => exact h
  | some s =>
    obtain ⟨g, e, hg⟩ := h
    exact ⟨g, e, hk _ _ hg⟩
theorem Mid.grew (M : Mid Bo A V n keep w R ptrs given todo v) (h : Grew R w R' w') (hN : Nodes Bo w' R') : Mid Bo A V n keep w' R' ptrs given todo v where
  at_ := h.row M.at_ (M.far A (by simp))
  len := M.len
  glen := M.glen
  pts := fun k hk => optPt_keep (M.pts k hk) h.keep
  held := ⟨h.row M.held.row (M.far V (by simp)), own_same M.held.own fun g hg => h.block g (M.held.own.lt hg).2 (M.own g hg).1, M.held.ne⟩
  nodes := hN
  low := Nat.le_trans M.low h.size
  far := fun x hx => h.new x (by
    rcases List.mem_cons.1 hx with rfl | hx
    · exact M.at_.lt
    · rcases List.mem_cons.1 hx with rfl | hx
      · exact M.held.row.lt
      · exact (M.kdis x hx).2.2) (M.far x hx)
  own := fun g hg => ⟨h.new g (M.held.own.lt hg).2 (M.own g hg).1, (M.own g hg).2⟩
  kdis := fun x hx => ⟨(M.kdis x hx).1, (M.kdis x hx).2.1, Nat.lt_of_lt_of_le (M.kdis x hx).2.2 h.size⟩
  av := M.av
  pos := M.pos
/-- One more block that must stay. -/
theorem Mid.more (M : Mid Bo A V n keep w R ptrs given todo v) {x : Nat} (h : Grew R w R w') (hN : Nodes Bo w' R) (hx : w.heap.size ≤ x) (hx2 : x < w'.heap.size) : Mid Bo A V n (x :: keep) w' R ptrs given todo v where
  at_ := (M.grew h hN).at_
  len := M.len
  glen := M.glen
  pts := M.pts
  held := (M.grew h hN).held
  nodes := hN
  low := Nat.le_trans M.low h.size
  far := fun y hy => by
    rcases List.mem_cons.1 hy with rfl | hy
    · exact M.far _ (by simp)
    · rcases List.mem_cons.1 hy with rfl | hy
      · exact M.far _ (by simp)
      · rcases List.mem_cons.1 hy with rfl | hy
        · exact rep_none M.nodes hx
        · exact M.far _ (by simp [hy])
  own := fun g hg => ⟨(M.own g hg).1, fun hm => by
    rcases List.mem_cons.1 hm with e | hm
    · exact (M.own g hg).2 (by simp [e])
    · rcases List.mem_cons.1 hm with rfl | hm
      · have := (M.held.own.lt hg).2; omega
      · exact (M.own g hg).2 (by simp [hm])⟩
  kdis := fun y hy => by
    rcases List.mem_cons.1 hy with rfl | hy
    · have := M.at_.lt
      have := M.held.row.lt
      exact ⟨by omega, by omega, hx2⟩
    · have := M.kdis y hy
      exact ⟨this.1, this.2.1, Nat.lt_of_lt_of_le this.2.2 h.size⟩
  av := M.av
  pos := M.pos
theorem Mid.less (M : Mid Bo A V n keep w R ptrs given todo v) {k2 : List Nat} (h : ∀ x ∈ k2, x ∈ keep) : Mid Bo A V n k2 w R ptrs given todo v where
  at_ := M.at_
  len := M.len
  glen := M.glen
  pts := M.pts
  held := M.held
  nodes := M.nodes
  low := M.low
  far := fun x hx => M.far x (by
    rcases List.mem_cons.1 hx with rfl | hx
    · simp
    · rcases List.mem_cons.1 hx with rfl | hx
      · simp
      · simp [h x hx])
  own := fun g hg => ⟨(M.own g hg).1, fun hm => (M.own g hg).2 (by
    rcases List.mem_cons.1 hm with rfl | hm
    · simp
    · simp [h g hm])⟩
  kdis := fun x hx => M.kdis x (h x hx)
  av := M.av
  pos := M.pos
/-- The variable and its row were written. -/
theorem Mid.went (M : Mid Bo A V n keep w R ptrs given todo v) {v2 : Value} {t2 : List Int} {p2 : List (Option Addr)} {g2 : List (Option (List Int))} (hr : Row w' A 103 (ptrC p2)) (hl : p2.length = n) (hg : g2.length = n) (hp : ∀ k, k < n → OptPt R (p2.getD k none) (g2.getD k none)) (hh : Held Bo w' V 44 v2 t2) (ho : Only (A :: V :: blk v) w w') (hn : ∀ g, v2.ownBlock = some g → g ∈ blk v ∨ w.heap.size ≤ g) (hpos : ∀ t ∈ t2, 0 ≤ t) : Mid Bo A V n keep w' R p2 g2 t2 v2 where
  at_ := hr
  len := hl
  glen := hg
  pts := hp
  held := hh
  nodes := M.nodes.same fun g hg => ho.block g (by
    cases hr : R g with
    | none => exact absurd hr hg
    | some t => exact M.nodes.lt hr) (fun hm => by
    rcases List.mem_cons.1 hm with rfl | hm
    · exact hg (M.far _ (by simp))
    · rcases List.mem_cons.1 hm with rfl | hm
      · exact hg (M.far _ (by simp))
      · exact hg (M.own g (blk_iff.1 hm)).1)
  low := Nat.le_trans M.low ho.size
  far := M.far
  own := fun g hg => by
    rcases hn g hg with h | h
    · exact M.own g (blk_iff.1 h)
    · refine ⟨rep_none M.nodes h, fun hm => ?_⟩
      rcases List.mem_cons.1 hm with rfl | hm
      · have := M.at_.lt; omega
      · have := (M.kdis g hm).2.2; omega
  kdis := fun x hx => ⟨(M.kdis x hx).1, (M.kdis x hx).2.1, Nat.lt_of_lt_of_le (M.kdis x hx).2.2 ho.size⟩
  av := M.av
  pos := hpos
/-- A block that must stay stays. -/
theorem Mid.stays (M : Mid Bo A V n keep w R ptrs given todo v) {x : Nat} {t : TypeId} {cs : List Value} (hr : Row w x t cs) (hx : x ∈ keep) (ho : Only (A :: V :: blk v) w w') : Row w' x t cs := ho.row hr (fun hm => by
  rcases List.mem_cons.1 hm with e | hm
  · exact (M.kdis x hx).1 e
  · rcases List.mem_cons.1 hm with e | hm
    · exact (M.kdis x hx).2.1 e
    · exact (M.own x (blk_iff.1 hm)).2 (by simp [hx]))
theorem Mid.kept (M : Mid Bo A V n keep w R ptrs given todo v) {x : Nat} {t : TypeId} {cs : List Value} (hr : Row w x t cs) (hx : x ∈ keep) (h : Grew R w R' w') : Row w' x t cs := h.row hr (M.far x (by simp [hx]))
/-- One is popped. -/
def PopPost (Bo A V n : Nat) (keep : List Nat) (w : World) (R : Rep) (ptrs : List (Option Addr)) (given : List (Option (List Int))) (todo : List Int) (v : Value) (e : Ending) (w' : World) : Prop :=
  ∃ (k : Nat) (t2 : List Int) (v2 : Value), e = .returned (.int .i64 k) ∧ Mid Bo A V n keep w' R ptrs given t2 v2 ∧ (∀ j, j ∈ idx todo ↔ j = k ∨ j ∈ idx t2) ∧ t2.length + 1 = todo.length ∧ Only (A :: V :: blk v) w w'
theorem pop_mid (M : Mid Bo A V n keep w R ptrs given todo v) (h0 : 0 < todo.length) (hl : todo.length ≤ 900000) : Calls Tryz.prog 74 #[.pointer (some ⟨V, 0, none⟩)] w (PopPost Bo A V n keep w R ptrs given todo v) := by
  refine (pop_walk Bo V v todo w M.held h0 hl).mono ?_
  rintro e w' ⟨rfl, v2, hh, hw⟩
  have hp := popH_perm h0
  have hpos : 0 ≤ (popH todo).1 := M.pos _ (hp.mem_iff.2 (by simp))
  have ho : Only (A :: V :: blk v) w w' := hw.only.mono (fun x hx => by simp at hx ⊢; exact .inr hx)
  refine ⟨(popH todo).1.toNat, (popH todo).2, v2, by rw [Int.toNat_of_nonneg hpos], ?_, fun j => ?_, by rw [popH_length]; omega, ho⟩
  · refine M.went ?_ M.len M.glen M.pts hh ho hw.new (fun t ht => M.pos t (hp.mem_iff.2 (by simp [ht])))
    exact hw.only.row M.at_ (fun hm => by
      rcases List.mem_cons.1 hm with e | hm
      · exact M.av e
      · exact (M.own A (blk_iff.1 hm)).2 (by simp))
  · have : j ∈ idx todo ↔ j ∈ idx ((popH todo).1 :: (popH todo).2) := by
      unfold idx
      exact (hp.map Int.toNat).mem_iff
    rw [this]
    simp [idx]
/-- A stack is handed on. -/
def HandPost (Bo A V n : Nat) (keep : List Nat) (w : World) (R : Rep) (given : List (Option (List Int))) (todo : List Int) (v : Value) (k : Nat) (s : List Int) (e : Ending) (w' : World) : Prop :=
  (e = .returned (.bool true) ∧ (given.getD k none = none ∨ given.getD k none = some s) ∧ ∃ p2 t2 v2, Mid Bo A V n keep w' R p2 (handA given k s) t2 v2 ∧ (∀ j, j ∈ handT given (idx todo) k ↔ j ∈ idx t2) ∧ t2.length = (handT given (idx todo) k).length ∧ Only (A :: V :: blk v) w w') ∨
  (e = .returned (.bool false) ∧ w' = w ∧ ∃ u, given.getD k none = some u ∧ u ≠ s)
theorem idx_length (l : List Int) : (idx l).length = l.length := by simp [idx]
theorem getD_some {α : Type} {l : List (Option α)} {k : Nat} {o : Option α} (h : k < l.length) (e : l.getD k none = o) : l[k]? = some o := by
  rw [List.getElem?_eq_getElem h, ← e, List.getD_eq_getElem?_getD, List.getElem?_eq_getElem h]
  rfl
theorem hand_mid (M : Mid Bo A V n keep w R ptrs given todo v) {k g c : Nat} {s : List Int} (hk : k < n) (hg : R g = some s) (hl : todo.length ≤ 900000) (hn : n ≤ 1000000) :
    Calls Tryz.prog 76 #[.slice (some ⟨A, 0, none⟩) n c, .pointer (some ⟨V, 0, none⟩), .int .i64 k, .pointer (some ⟨g, 0, none⟩)] w (HandPost Bo A V n keep w R given todo v k s) := by
  have hp := M.pts k hk
  have hkl : k < ptrs.length := by rw [M.len]; exact hk
  have hav : A ∉ blk v := fun hm => (M.own A (blk_iff.1 hm)).2 (by simp)
  cases hgv : given.getD k none with
  | none =>
    rw [hgv] at hp
    have hpn : ptrs.getD k none = none := hp
    refine (hand_new Bo A V ptrs n c v todo k ⟨g, 0, none⟩ w M.at_ M.len (getD_some hkl hpn) hn M.held M.av hav M.low hl).mono ?_
    rintro e w' ⟨rfl, v2, hr, hh, ho, hnew⟩
    refine .inl ⟨rfl, .inl hgv, _, _, v2, M.went hr (by rw [List.length_set]; exact M.len) (by rw [handA_length]; exact M.glen) (fun j hj => ?_) hh ho hnew (fun t ht => ?_), fun j => ?_, ?_, ho⟩
    · unfold handA
      rw [if_pos hgv]
      rw [opt_set, set_getD]
      by_cases hjk : k = j
      · subst hjk
        rw [if_pos ⟨rfl, hkl⟩, if_pos ⟨rfl, by rw [M.glen]; exact hk⟩]
        exact ⟨g, rfl, hg⟩
      · rw [if_neg (fun h => hjk h.1), if_neg (fun h => hjk h.1)]
        exact M.pts j hj
    · rcases List.mem_cons.1 ((pushH_perm todo k).mem_iff.1 ht) with rfl | h
      · exact Int.natCast_nonneg _
      · exact M.pos t h
    · unfold handT
      rw [if_pos hgv]
      have : j ∈ idx (pushH todo k) ↔ j ∈ idx ((k : Int) :: todo) := by
        unfold idx
        exact ((pushH_perm todo k).map Int.toNat).mem_iff
      rw [this]
      simp [idx]
      exact Or.comm
    · unfold handT
      rw [if_pos hgv, pushH_length, List.length_append, idx_length]
      rfl
  | some u =>
    rw [hgv] at hp
    obtain ⟨g2, hp2, hg2⟩ := hp
    by_cases hus : u = s
    · subst hus
      have e := M.nodes.inj g2 g u hg2 hg
      subst e
      refine (hand_same A V ptrs n c k ⟨g2, 0, none⟩ w M.at_ M.len (getD_some hkl hp2) hn).mono ?_
      rintro e w' ⟨rfl, rfl⟩
      have hA : handA given k u = given := by
        unfold handA
        rw [if_neg (by rw [hgv]; simp)]
      have hT : handT given (idx todo) k = idx todo := by
        unfold handT
        rw [if_neg (by rw [hgv]; simp)]
      exact .inl ⟨rfl, .inr hgv, ptrs, todo, v, by rw [hA]; exact M, fun j => by rw [hT], by rw [hT, idx_length], Only.refl _ _⟩
    · have hne : g2 ≠ g := by
        rintro rfl
        rw [hg] at hg2
        exact hus (Option.some.inj hg2).symm
      obtain ⟨_, _, _, _, h1⟩ := M.nodes.node g s hg
      obtain ⟨_, _, _, _, h2⟩ := M.nodes.node g2 u hg2
      refine (hand_differs A V ptrs n c k g g2 w M.at_ M.len (getD_some hkl hp2) hne hn _ _ _ _ h1.row h2.row).mono ?_
      rintro e w' ⟨rfl, rfl⟩
      exact .inr ⟨rfl, rfl, u, hgv, hus⟩
end
end Go.Proofs.YtmecmlpoallpcaaGreatDoor

/- code.fits: whether the stacks fit. Condition: the code is right but for that. -/
namespace Go.Proofs.YtmecmlpoallpcaaGreatDoor
set_option linter.unusedVariables false
open Go.RowKit Go.Proofs.PeepPlain

theorem info103 : (Tryz.prog.info? 103).map (fun i => (i.zero, i.size, i.bytes)) = some (some (.pointer none), 1, 8) := by kernel_rfl
theorem make_ptrs (n : Nat) (h : n ≤ 2000000) (w : World) : (Instr.makeSlice 102 (.int .i64 (n : Int)) (.int .i64 (n : Int))).run Tryz.prog w = .ok (.slice (some ⟨w.heap.size, 0, none⟩) n n) (w.alloc (.cells (ptrC (List.replicate n none)).toArray 103)) := by
  obtain ⟨i0, hi, hz0, hz1, hz2⟩ := info_parts info103
  have hb : (i0.bytes : Int) * (n : Int) ≤ 281474976710656 := by rw [hz2]; omega
  have := run_make (P := Tryz.prog) w 102 103 i0 _ Tryz.underlying102 hi hz0 .i64 .i64 n n (by omega) (by omega) hb (by omega)
  have e : (madeCells (Value.pointer none).cells (n * 1)).toList = ptrC (List.replicate n none) := by
    have := toList_madeCells_one (.pointer none) n
    simp only [Nat.mul_one]
    show (madeCells #[.pointer none] n).toList = _
    rw [this]
    simp [ptrC]
  rw [← e, ← hz1]
  simpa using this
/-- A function's cells. -/
def fnCells (nm : ByteArray) (params slots : Int) (tv : Value) (around : Int) (cv : Value) : List Value := [.string nm, .int .i64 params, .int .i64 slots, tv, .int .i64 around, cv]
/-- Where the loop stands. -/
structure FitSt (w : World) (CA : Option Addr) (l : List Ins) (fc : List Value) (wr : World) (R : Rep) (ptrs : List (Option Addr)) (given : List (Option (List Int))) (seen : List Bool) (todo : List Int) (v : Value) : Prop where
  mid : Mid w.heap.size (w.heap.size + 1) (w.heap.size + 1 + 1 + 1 + 1) (l.length + 1) [w.heap.size, w.heap.size + 1 + 1] wr R ptrs given todo v
  seen_ : Row wr (w.heap.size + 1 + 1) 3 (intC (seenI seen))
  box : Row wr w.heap.size 47 fc
  look : Look E0 l given seen (idx todo)
  few : nones given + todo.length ≤ l.length + 1
  below : Below w.heap.size w wr
  ins : InsAt wr CA l
def FitAny (w : World) (CA : Option Addr) (l : List Ins) (fc : List Value) (wr : World) : Prop := ∃ R ptrs given seen todo v, FitSt w CA l fc wr R ptrs given seen todo v
/-- Its first world. -/
def fitsWorld (w : World) (n : Nat) (fc : List Value) : World :=
  (((((w.alloc (.cells fc.toArray 47)).alloc (.cells ((ptrC (List.replicate (n + 1) none)).set 0 (.pointer (some ⟨w.heap.size + 1 + 1 + 1 + 1 + 1, 0, none⟩))).toArray 103)).alloc (.cells (intC (List.replicate n 0)).toArray 3)).alloc (.cells #[.int .i64 0] 3)).alloc (.cells #[.slice (some ⟨w.heap.size + 1 + 1 + 1, 0, none⟩) 1 1] 44)).alloc (.cells #[.int .u8 0, .pointer none, .int .i64 0, .pointer none, .pointer none, .pointer none] 106)
theorem nones_start (n : Nat) : nones ((List.replicate (n + 1) (none : Option (List Int))).set 0 (some [])) = n := by
  have := nones_set (g := List.replicate (n + 1) (none : Option (List Int))) (k := 0) (s := ([] : List Int)) (by simp) (by simp [List.replicate_succ])
  have e : nones (List.replicate (n + 1) (none : Option (List Int))) = n + 1 := by
    unfold nones
    rw [List.countP_replicate]
    simp
  omega
theorem fits_start (w : World) (CA : Option Addr) (l : List Ins) (fc : List Value) (W : WF l) (hA : InsAt w CA l) :
    FitSt w CA l fc (fitsWorld w l.length fc) (fun k => if k = w.heap.size + 1 + 1 + 1 + 1 + 1 then some [] else none) ((List.replicate (l.length + 1) none).set 0 (some ⟨w.heap.size + 1 + 1 + 1 + 1 + 1, 0, none⟩)) ((List.replicate (l.length + 1) none).set 0 (some [])) (List.replicate l.length false) [0] (.slice (some ⟨w.heap.size + 1 + 1 + 1, 0, none⟩) 1 1) := by
  have hb : Below w.heap.size w (fitsWorld w l.length fc) := (((((below1 w _).alloc (by simp only [World.size_alloc]; omega) _).alloc (by simp only [World.size_alloc]; omega) _).alloc (by simp only [World.size_alloc]; omega) _).alloc (by simp only [World.size_alloc]; omega) _).alloc (by simp only [World.size_alloc]; omega) _
  have hown : OwnI w.heap.size (fitsWorld w l.length fc) (.slice (some ⟨w.heap.size + 1 + 1 + 1, 0, none⟩) 1 1) [0] := by
    have := lit_own (((w.alloc (.cells fc.toArray 47)).alloc (.cells ((ptrC (List.replicate (l.length + 1) none)).set 0 (.pointer (some ⟨w.heap.size + 1 + 1 + 1 + 1 + 1, 0, none⟩))).toArray 103)).alloc (.cells (intC (List.replicate l.length 0)).toArray 3)) 0
    simp only [World.size_alloc] at this
    exact ((this.alloc _).alloc _).low (by omega)
  refine ⟨⟨?_, by simp, by simp, fun k hk => ?_, ⟨?_, hown, fun g hg => ?_⟩, ⟨fun g s h => ?_, fun g h s h1 h2 => ?_, fun g s h => ?_⟩, by unfold fitsWorld; simp; omega, fun x hx => ?_, fun g hg => ?_, fun x hx => ?_, by omega, by simp⟩, ?_, ?_, ?_, ?_, hb, hA.below hb⟩
  · have := (((((Row.made (w.alloc (.cells fc.toArray 47)) 103 (ptrC ((List.replicate (l.length + 1) none).set 0 (some ⟨w.heap.size + 1 + 1 + 1 + 1 + 1, 0, none⟩)))).alloc (.cells (intC (List.replicate l.length 0)).toArray 3)).alloc (.cells #[.int .i64 0] 3)).alloc (.cells #[.slice (some ⟨w.heap.size + 1 + 1 + 1, 0, none⟩) 1 1] 44)).alloc (.cells #[.int .u8 0, .pointer none, .int .i64 0, .pointer none, .pointer none, .pointer none] 106))
    rw [ptrC_set] at this
    simp only [World.size_alloc] at this
    rw [ptrC_set]
    exact this
  · rw [set_getD, opt_set]
    simp only [List.length_replicate]
    by_cases h0 : 0 = k
    · subst h0
      rw [if_pos ⟨rfl, by omega⟩, if_pos ⟨rfl, by omega⟩]
      exact ⟨_, rfl, by simp⟩
    · rw [if_neg (fun h => h0 h.1), if_neg (fun h => h0 h.1), List.getD_eq_getElem?_getD, List.getD_eq_getElem?_getD, List.getElem?_replicate, List.getElem?_replicate, if_pos hk, if_pos hk]
      rfl
  · have := (Row.made (((((w.alloc (.cells fc.toArray 47)).alloc (.cells ((ptrC (List.replicate (l.length + 1) none)).set 0 (.pointer (some ⟨w.heap.size + 1 + 1 + 1 + 1 + 1, 0, none⟩))).toArray 103)).alloc (.cells (intC (List.replicate l.length 0)).toArray 3)).alloc (.cells #[.int .i64 0] 3))) 44 [.slice (some ⟨w.heap.size + 1 + 1 + 1, 0, none⟩) 1 1]).alloc (.cells #[.int .u8 0, .pointer none, .int .i64 0, .pointer none, .pointer none, .pointer none] 106)
    simp only [World.size_alloc] at this
    exact this
  · simp only [Value.ownBlock, Option.some.injEq] at hg
    omega
  · split at h
    · omega
    · cases h
  · split at h1
    · split at h2
      · omega
      · cases h2
    · cases h1
  · split at h
    · rename_i e
      obtain rfl := Option.some.inj h
      subst e
      refine ⟨none, none, none, none, ⟨?_, rfl, .inl ⟨rfl, fun k h => ?_⟩, .inl ⟨rfl, fun k h => ?_⟩, .inl ⟨rfl, fun k h => ?_⟩⟩⟩
      · have := Row.made ((((((w.alloc (.cells fc.toArray 47)).alloc (.cells ((ptrC (List.replicate (l.length + 1) none)).set 0 (.pointer (some ⟨w.heap.size + 1 + 1 + 1 + 1 + 1, 0, none⟩))).toArray 103)).alloc (.cells (intC (List.replicate l.length 0)).toArray 3)).alloc (.cells #[.int .i64 0] 3))).alloc (.cells #[.slice (some ⟨w.heap.size + 1 + 1 + 1, 0, none⟩) 1 1] 44)) 106 [.int .u8 0, .pointer none, .int .i64 0, .pointer none, .pointer none, .pointer none]
        simp only [World.size_alloc] at this
        exact this
      all_goals
        dsimp only at h
        split at h
        · cases h
        · cases h
    · cases h
  · split
    · rename_i e
      simp at hx
      omega
    · rfl
  · simp only [Value.ownBlock, Option.some.injEq] at hg
    subst hg
    refine ⟨by rw [if_neg (by omega)], ?_⟩
    simp
    omega
  · simp at hx
    have : (fitsWorld w l.length fc).heap.size = w.heap.size + 6 := by unfold fitsWorld; simp
    omega
  · have := (((Row.made ((w.alloc (.cells fc.toArray 47)).alloc (.cells ((ptrC (List.replicate (l.length + 1) none)).set 0 (.pointer (some ⟨w.heap.size + 1 + 1 + 1 + 1 + 1, 0, none⟩))).toArray 103)) 3 (intC (List.replicate l.length 0))).alloc (.cells #[.int .i64 0] 3)).alloc (.cells #[.slice (some ⟨w.heap.size + 1 + 1 + 1, 0, none⟩) 1 1] 44)).alloc (.cells #[.int .u8 0, .pointer none, .int .i64 0, .pointer none, .pointer none, .pointer none] 106)
    simp only [World.size_alloc] at this
    have e : seenI (List.replicate l.length false) = List.replicate l.length 0 := by simp [seenI]
    rw [e]
    exact this
  · exact ((((((Row.made w 47 fc).alloc _).alloc _).alloc _).alloc _).alloc _)
  · exact look_start l W
  · rw [nones_start]
    simp
/-- How many were handed nothing, by the memory; how many are still to be looked at. -/
def nilsAt (w : World) (g : Nat) : Nat := match w.heap[g]? with
  | some (.cells cs _ _) => cs.toList.countP fun v => match v with | .pointer none => true | _ => false
  | _ => 0
def lenAt (w : World) (g : Nat) : Nat := match w.heap[g]? with
  | some (.cells cs _ _) => (match cs.toList with | [.slice _ n _] => n | _ => 0)
  | _ => 0
theorem nilsAt_row {w : World} {g : Nat} {l : List (Option Addr)} (h : Row w g 103 (ptrC l)) : nilsAt w g = l.countP fun x => x.isNone := by
  unfold Row at h
  unfold nilsAt
  rw [h]
  simp only [ptrC, List.countP_map]
  congr 1
  funext x
  cases x <;> rfl
theorem lenAt_row {w : World} {g n c : Nat} {A : Option Addr} (h : Row w g 44 [.slice A n c]) : lenAt w g = n := by
  unfold Row at h
  unfold lenAt
  rw [h]
theorem nils_given {R : Rep} : ∀ {ptrs : List (Option Addr)} {given : List (Option (List Int))}, ptrs.length = given.length → (∀ k, k < given.length → OptPt R (ptrs.getD k none) (given.getD k none)) → (ptrs.countP fun x => x.isNone) = nones given
  | [], [], _, _ => rfl
  | p :: ps, g :: gs, hl, h => by
    have h0 := h 0 (by simp)
    have ih := nils_given (ptrs := ps) (given := gs) (by simpa using hl) (fun k hk => by simpa using h (k + 1) (by simpa using hk))
    unfold nones at *
    simp only [List.countP_cons, ih]
    congr 1
    simp only [List.getD_cons_zero] at h0
    cases g with
    | none =>
      have : p = none := h0
      subst this
      rfl
    | some s =>
      obtain ⟨b, e, _⟩ := h0
      subst e
      rfl
theorem Mid.measure {Bo A V n : Nat} {keep : List Nat} {w : World} {R : Rep} {ptrs : List (Option Addr)} {given : List (Option (List Int))} {todo : List Int} {v : Value} (M : Mid Bo A V n keep w R ptrs given todo v) : nilsAt w A + lenAt w V = nones given + todo.length := by
  obtain ⟨B, c, rfl⟩ := M.held.shape
  rw [nilsAt_row M.at_, lenAt_row M.held.row, nils_given (by rw [M.len, M.glen]) (fun k hk => M.pts k (by rw [← M.glen]; exact hk))]
end Go.Proofs.YtmecmlpoallpcaaGreatDoor
