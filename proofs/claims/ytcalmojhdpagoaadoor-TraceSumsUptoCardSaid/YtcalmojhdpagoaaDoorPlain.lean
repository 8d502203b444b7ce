/- The plain law of Calls: what trace.Calls keeps, what the document's answer keeps, and that both come to the same calls. No program in sight. -/
import Derived.Test.YtcalmojhdpagoaaDoorEq
namespace Go.Proofs.YtcalmojhdpagoaaDoor

abbrev Key := Int × ByteArray
instance : DecidableEq ByteArray := fun x y => if h : x.data = y.data then isTrue (by cases x; cases y; simp_all) else isFalse (fun e => h (by rw [e]))
def Ev.key (e : Ev) : Key := (e.p, e.s)

/-- A call as trace keeps it. -/
structure Rec where
  e : Ev
  d : Nat
  en : Bool
  lf : Bool

/-- What trace keeps. -/
structure St where
  all : List Rec
  op : List Nat
  bg : List (Key × List Nat)

def getK (bg : List (Key × List Nat)) (n : Key) : List Nat := ((bg.find? (fun x => decide (x.1 = n))).map (·.2)).getD []
def putK : List (Key × List Nat) → Key → List Nat → List (Key × List Nat)
  | [], n, l => [(n, l)]
  | x :: bg, n, l => if x.1 = n then (n, l) :: bg else x :: putK bg n l

/-- What a call is kept as when it begins. -/
def newRec (st : St) (e : Ev) : Rec := ⟨e, st.op.length + 1, false, false⟩

def St.begin (st : St) (e : Ev) : St :=
  { all := st.all ++ [newRec st e], op := st.op ++ [st.all.length], bg := putK st.bg e.key (getK st.bg e.key ++ [st.all.length]) }

def lfAt (all : List Rec) (i : Nat) : Bool := (all[i]?.map (·.lf)).getD false
def keyAt (all : List Rec) (i : Nat) : Key := (all[i]?.map (·.e.key)).getD (0, ⟨#[]⟩)
def isKey (all : List Rec) (n : Key) (i : Nat) : Bool := decide (keyAt all i = n)
def dAt (all : List Rec) (i : Nat) : Nat := (all[i]?.map (·.d)).getD 0

/-- What is left of a list of calls when those at its end are struck that are left. -/
def popL (all : List Rec) : Nat → List Nat → List Nat
  | 0, l => l
  | n + 1, l => match l.getLast? with
    | some i => if lfAt all i then popL all n l.dropLast else l
    | none => l
def pop (all : List Rec) (l : List Nat) : List Nat := popL all l.length l

def leave (all : List Rec) (l : List Nat) : List Rec := l.foldl (fun a i => a.modify i fun r => { r with lf := true }) all

def St.finish (st : St) (e : Ev) : St :=
  let l := pop st.all (getK st.bg e.key)
  let bg := putK st.bg e.key l
  match l.getLast? with
  | none => { st with bg := bg }
  | some i =>
    let k := dAt st.all i - 1
    { all := leave (st.all.modify i fun r => { r with en := true }) (st.op.drop k), op := st.op.take k, bg := bg }

def St.step (st : St) (e : Ev) : St := if e.k = 2 then st.begin e else if e.k = 3 then st.finish e else st
def St.zero : St := ⟨[], [], []⟩

/-- A call as the document has it. -/
structure Cl where
  d : Nat
  s : ByteArray
  p : Int
  en : Bool

def lastK (q : Nat → Bool) (op : List Nat) : Nat → Option Nat
  | 0 => none
  | n + 1 => if q (op.getD n 0) then some n else lastK q op n

def clKey (all : List Cl) (i : Nat) : Key := (all[i]?.map fun c => (c.p, c.s)).getD (0, ⟨#[]⟩)

def clIs (all : List Cl) (n : Key) (i : Nat) : Bool := decide (clKey all i = n)

def refStep (a : List Cl × List Nat) (e : Ev) : List Cl × List Nat :=
  if e.k = 2 then (a.1 ++ [⟨a.2.length + 1, e.s, e.p, false⟩], a.2 ++ [a.1.length])
  else if e.k = 3 then
    match lastK (fun i => clIs a.1 e.key i) a.2 a.2.length with
    | some k => (a.1.modify (a.2.getD k 0) fun c => { c with en := true }, a.2.take k)
    | none => a
  else a

def Rec.cl (r : Rec) : Cl := ⟨r.d, r.e.s, r.e.p, r.en⟩

/-- What always holds of what trace keeps. -/
structure Inv (st : St) : Prop where
  dep : ∀ j i, st.op[j]? = some i → i < st.all.length ∧ dAt st.all i = j + 1
  nodup : st.op.Nodup
  opn : ∀ i, i < st.all.length → (lfAt st.all i = false ↔ i ∈ st.op)
  keys : ∀ n i, i ∈ getK st.bg n → i < st.all.length ∧ keyAt st.all i = n
  bgs : ∀ n, (getK st.bg n).filter (fun i => !lfAt st.all i) = st.op.filter (fun i => isKey st.all n i)

theorem getK_put (bg : List (Key × List Nat)) (n m : Key) (l : List Nat) : getK (putK bg n l) m = if m = n then l else getK bg m := by
  induction bg with
  | nil =>
    by_cases h : m = n
    · subst h; simp [getK, putK]
    · simp [getK, putK, Ne.symm h, h]
  | cons x bg ih =>
    by_cases hx : x.1 = n
    · subst hx
      by_cases h : m = x.1
      · subst h; simp [getK, putK]
      · simp [getK, putK, h, Ne.symm h]
    · simp only [putK, hx, if_false]
      by_cases h : m = n
      · subst h
        simp only [if_true] at ih ⊢
        simp only [getK, List.find?_cons] at ih ⊢
        rw [show decide (x.1 = m) = false by simp [hx]]
        exact ih
      · simp only [if_neg h] at ih ⊢
        by_cases h2 : x.1 = m
        · simp [getK, h2]
        · simp only [getK, List.find?_cons] at ih ⊢
          rw [show decide (x.1 = m) = false by simp [h2]]
          exact ih

theorem Inv.zero : Inv St.zero := ⟨by simp [St.zero], by simp [St.zero], by simp [St.zero], by simp [St.zero, getK], by simp [St.zero, getK]⟩

theorem at_append (all : List Rec) (r : Rec) (i : Nat) (h : i < all.length) : (all ++ [r])[i]? = all[i]? := List.getElem?_append_left h
theorem at_last (all : List Rec) (r : Rec) : (all ++ [r])[all.length]? = some r := by simp

theorem Inv.begin {st : St} (h : Inv st) (e : Ev) : Inv (st.begin e) where
  dep := by
    intro j i hj
    simp only [St.begin] at hj ⊢
    rw [List.getElem?_append] at hj
    split at hj
    · have := h.dep j i hj
      refine ⟨by simp; omega, ?_⟩
      unfold dAt
      rw [at_append _ _ _ this.1]
      exact this.2
    · rename_i hlt
      have hj0 : j - st.op.length = 0 := by
        have := (List.getElem?_eq_some_iff.1 hj).1
        simp at this
        omega
      rw [hj0] at hj
      simp at hj
      subst hj
      refine ⟨by simp, ?_⟩
      unfold dAt
      rw [at_last]
      simp [newRec]
      omega
  nodup := by
    simp only [St.begin]
    rw [List.nodup_append]
    refine ⟨h.nodup, by simp, ?_⟩
    intro a ha b hb e
    simp at hb
    subst hb
    obtain ⟨j, hj⟩ := List.getElem?_of_mem ha
    have := (h.dep j _ hj).1
    omega
  opn := by
    intro i hi
    simp only [St.begin, List.length_append, List.length_singleton] at hi ⊢
    by_cases hlt : i < st.all.length
    · unfold lfAt
      rw [at_append _ _ _ hlt]
      have := h.opn i hlt
      unfold lfAt at this
      rw [this, List.mem_append]
      simp
      omega
    · have : i = st.all.length := by omega
      subst this
      unfold lfAt
      rw [at_last]
      simp [newRec]
  keys := by
    intro n i hi
    simp only [St.begin] at hi ⊢
    rw [getK_put] at hi
    have old : ∀ i, i ∈ getK st.bg n → i < (st.all ++ [newRec st e]).length ∧ keyAt (st.all ++ [newRec st e]) i = n := fun i hi => by
      have := h.keys n i hi
      refine ⟨by simp; omega, ?_⟩
      unfold keyAt
      rw [at_append _ _ _ this.1]
      exact this.2
    split at hi
    · rename_i hn
      subst hn
      rw [List.mem_append] at hi
      rcases hi with hi | hi
      · exact old i hi
      · simp at hi
        subst hi
        refine ⟨by simp, ?_⟩
        unfold keyAt
        rw [at_last]
        rfl
    · exact old i hi
  bgs := by
    intro n
    simp only [St.begin]
    have hf : ∀ l : List Nat, (∀ i ∈ l, i < st.all.length) → l.filter (fun i => !lfAt (st.all ++ [newRec st e]) i) = l.filter (fun i => !lfAt st.all i) := fun l hl =>
      List.filter_congr fun i hi => by unfold lfAt; rw [at_append _ _ _ (hl i hi)]
    have hk : st.op.filter (fun i => isKey (st.all ++ [newRec st e]) n i) = st.op.filter (fun i => isKey st.all n i) :=
      List.filter_congr fun i hi => by
        obtain ⟨j, hj⟩ := List.getElem?_of_mem hi
        unfold isKey keyAt
        rw [at_append _ _ _ (h.dep j i hj).1]
    have hlast : lfAt (st.all ++ [newRec st e]) st.all.length = false := by unfold lfAt; rw [at_last]; rfl
    have hlastk : keyAt (st.all ++ [newRec st e]) st.all.length = e.key := by unfold keyAt; rw [at_last]; rfl
    rw [getK_put, List.filter_append (l₁ := st.op), hk]
    by_cases hn : n = e.key
    · subst hn
      rw [if_pos rfl, List.filter_append, hf _ (fun i hi => (h.keys _ i hi).1), h.bgs]
      simp [hlast, hlastk, isKey]
    · rw [if_neg hn, hf _ (fun i hi => (h.keys _ i hi).1), h.bgs]
      simp [hlastk, Ne.symm hn, isKey]

/-! ### The end of a call -/
theorem last_split : ∀ {l : List Nat} {i : Nat}, l.getLast? = some i → l = l.dropLast ++ [i]
  | [], i, h => by simp at h
  | [x], i, h => by simp at h; simp [h]
  | x :: y :: l, i, h => by
    have := last_split (l := y :: l) (i := i) (by simpa [List.getLast?_cons] using h)
    simp only [List.dropLast_cons_cons, List.cons_append]
    rw [← this]
theorem popL_spec (all : List Rec) : ∀ (n : Nat) (l : List Nat), l.length ≤ n → (popL all n l).filter (fun i => !lfAt all i) = l.filter (fun i => !lfAt all i) ∧ (∀ i ∈ popL all n l, i ∈ l) ∧
    ∀ i, (popL all n l).getLast? = some i → lfAt all i = false
  | 0, l, h => by
    have : l = [] := List.eq_nil_of_length_eq_zero (by omega)
    subst this
    simp [popL]
  | n + 1, l, h => by
    simp only [popL]
    split
    · rename_i i hi
      split
      · rename_i hlf
        have e : l = l.dropLast ++ [i] := last_split hi
        obtain ⟨h1, h2, h3⟩ := popL_spec all n l.dropLast (by simp; omega)
        refine ⟨?_, fun j hj => List.dropLast_subset l (h2 j hj), h3⟩
        rw [h1]
        conv => rhs; rw [e]
        rw [List.filter_append]
        simp [hlf]
      · rename_i hlf
        refine ⟨rfl, fun j hj => hj, fun j hj => ?_⟩
        rw [hi] at hj
        injection hj with hj
        subst hj
        simpa using hlf
    · rename_i hi
      have : l = [] := by simpa using hi
      subst this
      simp

theorem pop_spec (all : List Rec) (l : List Nat) : (pop all l).filter (fun i => !lfAt all i) = l.filter (fun i => !lfAt all i) ∧ (∀ i ∈ pop all l, i ∈ l) ∧ ∀ i, (pop all l).getLast? = some i → lfAt all i = false :=
  popL_spec all l.length l (Nat.le_refl _)

theorem leave_length (all : List Rec) (l : List Nat) : (leave all l).length = all.length := by
  unfold leave
  induction l generalizing all with
  | nil => rfl
  | cons i l ih => simp only [List.foldl_cons]; rw [ih]; simp

theorem leave_at (all : List Rec) (l : List Nat) (j : Nat) : (leave all l)[j]? = all[j]?.map fun r => { r with lf := r.lf || decide (j ∈ l) } := by
  unfold leave
  induction l generalizing all with
  | nil => cases h : all[j]? <;> simp [h]
  | cons i l ih =>
    simp only [List.foldl_cons]
    rw [ih]
    by_cases h : i = j
    · subst h
      rw [List.getElem?_modify_eq]
      cases h : all[i]? <;> simp
    · rw [List.getElem?_modify_ne _ _ h]
      cases hj : all[j]? <;> simp [Ne.symm h]

theorem getLast_filter {q : Nat → Bool} : ∀ (op : List Nat) (i : Nat), (op.filter q).getLast? = some i → ∃ k, op[k]? = some i ∧ q i = true ∧ ∀ j : Nat, k < j → ∀ u, op[j]? = some u → q u = false
  | [], i, h => by simp at h
  | x :: op, i, h => by
    by_cases hne : op.filter q = []
    · by_cases hx : q x = true
      · rw [List.filter_cons_of_pos hx, hne] at h
        simp at h
        subst h
        refine ⟨0, rfl, hx, fun j hj u hu => ?_⟩
        cases j with
        | zero => omega
        | succ j =>
          simp at hu
          cases hq : q u with
          | false => rfl
          | true =>
            have : u ∈ op.filter q := List.mem_filter.2 ⟨List.mem_of_getElem? hu, hq⟩
            rw [hne] at this
            simp at this
      · rw [List.filter_cons_of_neg hx, hne] at h
        simp at h
    · have h2 : (op.filter q).getLast? = some i := by
        by_cases hx : q x = true
        · rw [List.filter_cons_of_pos hx] at h
          rw [List.getLast?_cons] at h
          cases hl : (op.filter q).getLast? with
          | none => exact absurd (by simpa using hl) hne
          | some y => rw [hl] at h; simpa using h
        · rw [List.filter_cons_of_neg hx] at h; exact h
      obtain ⟨k, h1, h3, h4⟩ := getLast_filter op i h2
      refine ⟨k + 1, by simpa using h1, h3, fun j hj u hu => ?_⟩
      cases j with
      | zero => omega
      | succ j => exact h4 j (by omega) u (by simpa using hu)

theorem lastK_some {q : Nat → Bool} {op : List Nat} {k i : Nat} (hk : op[k]? = some i) (hq : q i = true) (hn : ∀ j, k < j → ∀ u, op[j]? = some u → q u = false) : ∀ n, n ≤ op.length → k < n → lastK q op n = some k
  | 0, _, h => by omega
  | n + 1, hn', h => by
    simp only [lastK]
    by_cases e : k = n
    · subst e
      have : op.getD k 0 = i := by simp [List.getD, hk]
      rw [this, if_pos hq]
    · have hlt : n < op.length := by omega
      have : q (op.getD n 0) = false := hn n (by omega) _ (by simp [List.getD, List.getElem?_eq_getElem hlt])
      rw [if_neg (by rw [this]; simp)]
      exact lastK_some hk hq hn n (by omega) (by omega)
theorem lastK_none {q : Nat → Bool} {op : List Nat} (hn : ∀ u ∈ op, q u = false) : ∀ n, n ≤ op.length → lastK q op n = none
  | 0, _ => rfl
  | n + 1, h => by
    simp only [lastK]
    have hlt : n < op.length := by omega
    have : q (op.getD n 0) = false := hn _ (by simp only [List.getD, List.getElem?_eq_getElem hlt, Option.getD_some]; exact List.getElem_mem hlt)
    rw [if_neg (by rw [this]; simp)]
    exact lastK_none hn n (by omega)

theorem filter_not_drop (op : List Nat) (h : op.Nodup) (k : Nat) : op.filter (fun i => !decide (i ∈ op.drop k)) = op.take k := by
  have e := List.take_append_drop k op
  conv => lhs; arg 2; rw [← e]
  rw [List.filter_append]
  have hd : (op.take k ++ op.drop k).Nodup := by rw [e]; exact h
  rw [List.nodup_append] at hd
  have h1 : (op.take k).filter (fun i => !decide (i ∈ op.drop k)) = op.take k := List.filter_eq_self.2 fun i hi => by
    have : i ∉ op.drop k := fun hi' => hd.2.2 i hi i hi' rfl
    simp [this]
  have h2 : (op.drop k).filter (fun i => !decide (i ∈ op.drop k)) = [] := List.filter_eq_nil_iff.2 fun i hi => by simp [hi]
  rw [h1, h2, List.append_nil]

/-- What a call's end comes to, in both. -/
theorem finish_ways {st : St} (h : Inv st) (e : Ev) :
    ((pop st.all (getK st.bg e.key)).getLast? = none ∧ ∀ i ∈ st.op, keyAt st.all i ≠ e.key) ∨
    ∃ i k, (pop st.all (getK st.bg e.key)).getLast? = some i ∧ i < st.all.length ∧ st.op[k]? = some i ∧ dAt st.all i = k + 1 ∧ keyAt st.all i = e.key ∧ ∀ j, k < j → ∀ u, st.op[j]? = some u → keyAt st.all u ≠ e.key := by
  obtain ⟨h1, h2, h3⟩ := pop_spec st.all (getK st.bg e.key)
  rw [h.bgs] at h1
  cases hl : (pop st.all (getK st.bg e.key)).getLast? with
  | none =>
    left
    refine ⟨rfl, fun i hi hk => ?_⟩
    have e0 : pop st.all (getK st.bg e.key) = [] := by simpa using hl
    rw [e0] at h1
    have : i ∈ st.op.filter (fun i => isKey st.all e.key i) := List.mem_filter.2 ⟨hi, by simp [isKey, hk]⟩
    rw [← h1] at this
    simp at this
  | some i =>
    right
    have hlf := h3 i hl
    have hlast : ((pop st.all (getK st.bg e.key)).filter (fun i => !lfAt st.all i)).getLast? = some i := by
      have ed : pop st.all (getK st.bg e.key) = (pop st.all (getK st.bg e.key)).dropLast ++ [i] := last_split hl
      rw [ed, List.filter_append]
      simp [hlf]
    rw [h1] at hlast
    obtain ⟨k, hk, hq, hn⟩ := getLast_filter _ _ hlast
    have hd := h.dep k i hk
    exact ⟨i, k, rfl, hd.1, hk, hd.2, by simpa [isKey] using hq, fun j hj u hu he => by have := hn j hj u hu; simp [isKey, he] at this⟩

theorem keyAt_leave (all : List Rec) (i : Nat) (l : List Nat) (j : Nat) : keyAt (leave (all.modify i fun r => { r with en := true }) l) j = keyAt all j := by
  unfold keyAt
  rw [leave_at]
  by_cases h : i = j
  · subst h; rw [List.getElem?_modify_eq]; cases all[i]? <;> rfl
  · rw [List.getElem?_modify_ne _ _ h]; cases all[j]? <;> rfl
theorem dAt_leave (all : List Rec) (i : Nat) (l : List Nat) (j : Nat) : dAt (leave (all.modify i fun r => { r with en := true }) l) j = dAt all j := by
  unfold dAt
  rw [leave_at]
  by_cases h : i = j
  · subst h; rw [List.getElem?_modify_eq]; cases all[i]? <;> rfl
  · rw [List.getElem?_modify_ne _ _ h]; cases all[j]? <;> rfl
theorem lfAt_leave (all : List Rec) (i : Nat) (l : List Nat) (j : Nat) (hj : j < all.length) : lfAt (leave (all.modify i fun r => { r with en := true }) l) j = (lfAt all j || decide (j ∈ l)) := by
  unfold lfAt
  rw [leave_at]
  have hj' : all[j]? = some all[j] := List.getElem?_eq_getElem hj
  by_cases h : i = j
  · subst h; rw [List.getElem?_modify_eq, hj']; simp
  · rw [List.getElem?_modify_ne _ _ h, hj']; simp

theorem Inv.finish {st : St} (h : Inv st) (e : Ev) : Inv (st.finish e) := by
  obtain ⟨h1, h2, _⟩ := pop_spec st.all (getK st.bg e.key)
  rcases finish_ways h e with ⟨hl, hno⟩ | ⟨i, k, hl, hi, hk, hd, hkey, hn⟩
  · unfold St.finish
    simp only [hl]
    refine ⟨h.dep, h.nodup, h.opn, fun n i hi => ?_, fun n => ?_⟩
    · dsimp only at hi ⊢
      rw [getK_put] at hi
      split at hi
      · rename_i hn; subst hn; exact h.keys _ i (h2 i hi)
      · exact h.keys n i hi
    · dsimp only
      rw [getK_put]
      split
      · rename_i hn; subst hn; rw [h1, h.bgs]
      · exact h.bgs n
  · unfold St.finish
    simp only [hl]
    have hk1 : dAt st.all i - 1 = k := by omega
    rw [hk1]
    refine ⟨fun j u hj => ?_, ?_, fun j hj => ?_, fun n u hu => ?_, fun n => ?_⟩
    · dsimp only at hj ⊢
      rw [List.getElem?_take] at hj
      split at hj
      · have := h.dep j u hj
        refine ⟨by rw [leave_length]; simpa using this.1, ?_⟩
        rw [dAt_leave]; exact this.2
      · cases hj
    · exact h.nodup.sublist (List.take_sublist _ _)
    · dsimp only at hj ⊢
      rw [leave_length, List.length_modify] at hj
      rw [lfAt_leave _ _ _ _ hj, Bool.or_eq_false_iff, h.opn j hj, ← filter_not_drop st.op h.nodup k, List.mem_filter]
      simp
    · dsimp only at hu ⊢
      rw [leave_length, List.length_modify, keyAt_leave]
      rw [getK_put] at hu
      split at hu
      · rename_i hn; subst hn; exact h.keys _ u (h2 u hu)
      · exact h.keys n u hu
    · dsimp only
      have hgen : ∀ L : List Nat, (∀ u ∈ L, u < st.all.length) → L.filter (fun i => !lfAt st.all i) = st.op.filter (fun i => isKey st.all n i) →
          L.filter (fun j => !lfAt (leave (st.all.modify i fun r => { r with en := true }) (st.op.drop k)) j) = (st.op.take k).filter (fun j => isKey (leave (st.all.modify i fun r => { r with en := true }) (st.op.drop k)) n j) := fun L hL hLe => by
        have e1 : L.filter (fun j => !lfAt (leave (st.all.modify i fun r => { r with en := true }) (st.op.drop k)) j) = (L.filter (fun i => !lfAt st.all i)).filter (fun j => !decide (j ∈ st.op.drop k)) := by
          rw [List.filter_filter]
          exact List.filter_congr fun j hj => by rw [lfAt_leave _ _ _ _ (hL j hj), Bool.not_or, Bool.and_comm]
        rw [e1, hLe, List.filter_filter]
        have e2 : st.op.filter (fun a => (!decide (a ∈ st.op.drop k)) && isKey st.all n a) = (st.op.filter (fun a => !decide (a ∈ st.op.drop k))).filter (fun a => isKey st.all n a) := by
          rw [List.filter_filter]
          exact List.filter_congr fun j _ => by rw [Bool.and_comm]
        rw [e2, filter_not_drop st.op h.nodup k]
        exact List.filter_congr fun j _ => by unfold isKey; rw [keyAt_leave]
      rw [getK_put]
      split
      · rename_i hn'; subst hn'
        exact hgen _ (fun u hu => (h.keys _ u (h2 u hu)).1) (by rw [h1, h.bgs])
      · exact hgen _ (fun u hu => (h.keys _ u hu).1) (h.bgs n)

theorem clKey_map (all : List Rec) (i : Nat) : clKey (all.map Rec.cl) i = keyAt all i := by
  unfold clKey keyAt
  rw [List.getElem?_map]
  cases all[i]? <;> rfl

theorem leave_cl (all : List Rec) (l : List Nat) : (leave all l).map Rec.cl = all.map Rec.cl := by
  apply List.ext_getElem?
  intro j
  rw [List.getElem?_map, List.getElem?_map, leave_at]
  cases all[j]? <;> rfl
theorem modify_cl (all : List Rec) (i : Nat) : (all.modify i fun r => { r with en := true }).map Rec.cl = (all.map Rec.cl).modify i fun c => { c with en := true } := by
  apply List.ext_getElem?
  intro j
  rw [List.getElem?_map]
  by_cases h : i = j
  · subst h; rw [List.getElem?_modify_eq, List.getElem?_modify_eq, List.getElem?_map]; cases all[i]? <;> rfl
  · rw [List.getElem?_modify_ne _ _ h, List.getElem?_modify_ne _ _ h, List.getElem?_map]

/-- ONE EVENT: both go the same way. -/
theorem step_same {st : St} (h : Inv st) (e : Ev) : Inv (st.step e) ∧ refStep (st.all.map Rec.cl, st.op) e = ((st.step e).all.map Rec.cl, (st.step e).op) := by
  unfold St.step refStep
  by_cases h2 : e.k = 2
  · rw [if_pos h2, if_pos h2]
    exact ⟨h.begin e, by simp [St.begin, Rec.cl, newRec]⟩
  · rw [if_neg h2, if_neg h2]
    by_cases h3 : e.k = 3
    · rw [if_pos h3, if_pos h3]
      refine ⟨h.finish e, ?_⟩
      rcases finish_ways h e with ⟨hl, hno⟩ | ⟨i, k, hl, hi, hk, hd, hkey, hn⟩
      · have hnone : lastK (fun i => clIs (st.all.map Rec.cl) e.key i) st.op st.op.length = none := lastK_none (fun u hu => by
          unfold clIs; rw [clKey_map]; simpa using hno u hu) _ (Nat.le_refl _)
        simp only [hnone]
        unfold St.finish
        simp only [hl]
      · have hsome : lastK (fun i => clIs (st.all.map Rec.cl) e.key i) st.op st.op.length = some k := lastK_some hk (by unfold clIs; rw [clKey_map]; simpa using hkey) (fun j hj u hu => by
          unfold clIs; rw [clKey_map]; simpa using hn j hj u hu) _ (Nat.le_refl _) (List.getElem?_eq_some_iff.1 hk).1
        simp only [hsome]
        unfold St.finish
        simp only [hl]
        have hk1 : dAt st.all i - 1 = k := by omega
        rw [hk1, leave_cl, modify_cl, show st.op.getD k 0 = i by simp [List.getD, hk]]
    · rw [if_neg h3, if_neg h3]
      exact ⟨h, rfl⟩

/-- What both keep behind a list of events. -/
def runT (l : List Ev) : St := l.foldl St.step St.zero
def runR (l : List Ev) : List Cl × List Nat := l.foldl refStep ([], [])
theorem run_same (l : List Ev) : Inv (runT l) ∧ runR l = ((runT l).all.map Rec.cl, (runT l).op) := by
  have : ∀ (l : List Ev) (st : St), Inv st → Inv (l.foldl St.step st) ∧ l.foldl refStep (st.all.map Rec.cl, st.op) = ((l.foldl St.step st).all.map Rec.cl, (l.foldl St.step st).op) := by
    intro l
    induction l with
    | nil => exact fun st h => ⟨h, rfl⟩
    | cons e l ih =>
      intro st h
      obtain ⟨h1, h2⟩ := step_same h e
      simp only [List.foldl_cons]
      rw [h2]
      exact ih _ h1
  exact this l St.zero Inv.zero
theorem runT_snoc (l : List Ev) (e : Ev) : runT (l ++ [e]) = (runT l).step e := by simp [runT]
theorem runR_snoc (l : List Ev) (e : Ev) : runR (l ++ [e]) = refStep (runR l) e := by simp [runR]
end Go.Proofs.YtcalmojhdpagoaaDoor
