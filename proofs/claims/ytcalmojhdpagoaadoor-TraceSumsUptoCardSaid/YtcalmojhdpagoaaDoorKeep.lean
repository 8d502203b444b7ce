/- What trace.Calls keeps in memory, told as a state; what turns and what stays. -/
import Derived.Test.YtcalmojhdpagoaaDoorMap
import Derived.Test.YtcalmojhdpagoaaDoorLines
import Derived.Deep.AppendLies
import Derived.WalkSmall
namespace Go.Proofs.YtcalmojhdpagoaaDoor
set_option linter.unusedVariables false
open Go.RowKit

def Rec.cells (r : Rec) : List Value := [.int .i64 r.e.k, .int .i64 r.e.p, .string r.e.s, .int .i64 r.d, .bool r.en, .bool r.lf]
def flatR (l : List Rec) : List Value := l.flatMap Rec.cells
def nats (l : List Nat) : List Value := l.map fun (i : Nat) => Value.int .i64 (i : Int)

theorem flatR_length (l : List Rec) : (flatR l).length = l.length * 6 := by
  induction l with
  | nil => rfl
  | cons e l ih => simp only [flatR, List.flatMap_cons, List.length_append] at *; rw [ih]; simp [Rec.cells]; omega
theorem flatR_append (l m : List Rec) : flatR (l ++ m) = flatR l ++ flatR m := by simp [flatR]
theorem flatR_at (l : List Rec) (i j : Nat) (r : Rec) (h : l[i]? = some r) (hj : j < 6) : (flatR l)[i * 6 + j]? = r.cells[j]? := by
  induction l generalizing i with
  | nil => simp at h
  | cons e l ih =>
    have e6 : e.cells.length = 6 := rfl
    cases i with
    | zero =>
      simp at h; subst h
      simp only [flatR, List.flatMap_cons]
      rw [List.getElem?_append_left (by omega)]
      congr 1
      omega
    | succ i =>
      have := ih i (by simpa using h)
      simp only [flatR, List.flatMap_cons] at *
      rw [List.getElem?_append_right (by omega), show (i + 1) * 6 + j - e.cells.length = i * 6 + j by omega]
      exact this
theorem flatR_set (l : List Rec) (i j : Nat) (v : Value) (f : Rec → Rec) (hj : j < 6) (hf : ∀ r, (f r).cells = r.cells.set j v) (hi : i < l.length) : (flatR l).set (i * 6 + j) v = flatR (l.modify i f) := by
  induction l generalizing i with
  | nil => simp at hi
  | cons e l ih =>
    have e6 : e.cells.length = 6 := rfl
    cases i with
    | zero =>
      simp only [flatR, List.flatMap_cons, List.modify_zero_cons]
      rw [List.set_append_left _ _ (by omega), hf]
      congr 2
      omega
    | succ i =>
      have := ih i (by simpa using hi)
      simp only [flatR, List.flatMap_cons, List.modify_succ_cons] at *
      rw [List.set_append_right _ _ (by omega), show (i + 1) * 6 + j - e.cells.length = i * 6 + j by omega, this]
theorem nats_length (l : List Nat) : (nats l).length = l.length := by simp [nats]
theorem nats_append (l m : List Nat) : nats (l ++ m) = nats l ++ nats m := by simp [nats]

theorem own_shape {w : World} {B : Nat} {e : TypeId} {size n : Nat} {v : Value} {xs : List Value} (h : w.ownsRow B e size v n xs) : ∃ A c, v = .slice A n c := by
  rcases h.2 with ⟨rfl, rfl⟩ | ⟨g, cap, cur, rfl, _⟩
  · exact ⟨none, 0, rfl⟩
  · exact ⟨_, cap, rfl⟩

/-- The state st lies in w: block gc is the struct, gm its map, all rows lie from B on, no two rows of numbers in one block. -/
structure TS (w : World) (B gc gm : Nat) (st : St) (allv opv : Value) (vs : List Value) : Prop where
  row : Row w gc 39 [allv, opv, .map (some gm)]
  all : w.ownsRow B 46 6 allv st.all.length (flatR st.all)
  opn : w.ownsRow B 3 1 opv st.op.length (nats st.op)
  map : HasMap w gm (st.bg.map (·.1)) vs
  each : ∀ (j : Nat) v x, vs[j]? = some v → st.bg[j]? = some x → w.ownsRow B 3 1 v x.2.length (nats x.2)
  apart : ∀ (j : Nat) v, vs[j]? = some v → v.ownBlock = none ∨ v.ownBlock ≠ opv.ownBlock
  among : ∀ (i j : Nat) v u, i ≠ j → vs[i]? = some v → vs[j]? = some u → v.ownBlock = none ∨ v.ownBlock ≠ u.ownBlock
  low : gm < B ∧ gc < B ∧ gm ≠ gc ∧ B ≤ w.heap.size

/-- What stays: all below B0, and the blocks of other types. -/
structure Kept (B0 : Nat) (w w' : World) : Prop where
  below : Below B0 w w'
  other : ∀ (k : Nat) cs t fr, w.heap[k]? = some (.cells cs t fr) → t ≠ 3 → t ≠ 46 → t ≠ 39 → w'.heap[k]? = w.heap[k]?

theorem Kept.refl (B0 : Nat) (w : World) : Kept B0 w w := ⟨Below.refl _ _, fun _ _ _ _ _ _ _ _ => rfl⟩
theorem Kept.trans {B0 : Nat} {a b c : World} (h : Kept B0 a b) (k : Kept B0 b c) : Kept B0 a c :=
  ⟨h.below.trans k.below, fun i cs t fr hi h3 h46 h39 => (k.other i cs t fr ((h.other i cs t fr hi h3 h46 h39).trans hi) h3 h46 h39).trans (h.other i cs t fr hi h3 h46 h39)⟩
theorem Kept.alloc {B0 : Nat} {a w : World} (h : Kept B0 a w) (hB : B0 ≤ w.heap.size) (o : Obj) : Kept B0 a (w.alloc o) :=
  h.trans ⟨(Below.refl _ _).alloc hB o, fun k cs t fr hk _ _ _ => Below.heap_alloc w o k (Array.getElem?_eq_some_iff.1 hk).1⟩
theorem Kept.drew {B0 : Nat} {a w : World} (h : Kept B0 a w) : Kept B0 a w.drew := h.trans ⟨(Below.refl _ _).drew, fun _ _ _ _ _ _ _ _ => rfl⟩
theorem Kept.drewN {B0 : Nat} {a w : World} (h : Kept B0 a w) (n : Nat) : Kept B0 a (w.drewN n) := h.trans ⟨below_of_drewN _ _ _, fun _ _ _ _ _ _ _ _ => rfl⟩
theorem Kept.setMap {B0 : Nat} {a w : World} {gm : Nat} {ks : List Key} {vs : List Value} (h : Kept B0 a w) (hm : HasMap w gm ks vs) (hB : B0 ≤ gm) (ks' : List Key) (vs' : List Value) : Kept B0 a (setMap w gm ks' vs') :=
  h.trans ⟨below_setMap (Below.refl _ _) hB _ _, fun k cs t fr hk _ _ _ => setMap_far w gm ks' vs' k (fun e => by subst e; rw [hm.2] at hk; cases hk)⟩
/-- A row of one of the three types is written, or moved. -/
theorem Kept.grown {B0 B : Nat} {a w w' : World} {e : TypeId} {size n : Nat} {v : Value} {xs : List Value} (h : Kept B0 a w) (hv : w.ownsRow B e size v n xs) (he : e = 3 ∨ e = 46 ∨ e = 39) (hg : w.grownBy w' v.ownBlock) (hB : B0 ≤ B) (hBw : B ≤ w.heap.size) : Kept B0 a w' :=
  h.trans ⟨(Below.refl _ _).grown hg (by omega) (fun k hk => by have := (hv.lt k hk).1; omega), fun k cs t fr hk h3 h46 h39 => hg.block k (Array.getElem?_eq_some_iff.1 hk).1 (fun ek => by
    rcases hv.2 with ⟨rfl, _⟩ | ⟨g, cap, cur, rfl, _, hgg, _⟩
    · simp [Value.ownBlock] at ek
    · simp [Value.ownBlock] at ek
      subst ek
      rw [hk] at hgg
      injection hgg with hgg
      injection hgg with _ ht
      subst ht
      rcases he with e | e | e
      · exact h3 e
      · exact h46 e
      · exact h39 e)⟩
theorem Kept.setCell {B0 : Nat} {a w : World} (h : Kept B0 a w) {g i : Nat} {t : TypeId} {cs : List Value} (hr : Row w g t cs) (ht : t = 3 ∨ t = 46 ∨ t = 39) (hB : B0 ≤ g) (u : Value) : Kept B0 a (w.setCell ⟨g, i, none⟩ u) :=
  h.trans ⟨(Below.refl _ _).setCell hB u, fun k cs' t' fr hk h3 h46 h39 => heap_setCell_other w ⟨g, i, none⟩ k u (fun e => by
    subst e
    unfold Row at hr
    rw [hk] at hr
    injection hr with hr
    injection hr with _ ht'
    subst ht'
    rcases ht with e | e | e
    · exact h3 e
    · exact h46 e
    · exact h39 e)⟩
theorem Kept.row {B0 : Nat} {w w' : World} (h : Kept B0 w w') {g : Nat} {t : TypeId} {cs : List Value} (hr : Row w g t cs) (h3 : t ≠ 3) (h46 : t ≠ 46) (h39 : t ≠ 39) : Row w' g t cs := (h.other g _ t _ hr h3 h46 h39).trans hr
theorem Kept.size {B0 : Nat} {w w' : World} (h : Kept B0 w w') : w.heap.size ≤ w'.heap.size := h.below.size

@[go_sem] theorem build54 (a : Int) (s : ByteArray) (w : World) : (Instr.build 54 #[(0, .int .i64 a), (1, .string s)]).run Tryd.prog w = .ok (.agg #[.int .i64 a, .string s]) w := run_build w 54 _ _ (by kernel_rfl)
@[go_sem] theorem build46 (k p d : Int) (s : ByteArray) (w : World) : (Instr.build 46 #[(0, .agg #[.int .i64 k, .int .i64 p, .string s]), (1, .int .i64 d)]).run Tryd.prog w = .ok (.agg #[.int .i64 k, .int .i64 p, .string s, .int .i64 d, .bool false, .bool false]) w := run_build w 46 _ _ (by kernel_rfl)
theorem info46 : (Tryd.prog.info? 46).map (fun i => (i.zero, i.size, i.bytes)) = some (some (.agg #[.int .i64 0, .int .i64 0, .string ⟨#[]⟩, .int .i64 0, .bool false, .bool false]), 6, 48) := by kernel_rfl
end Go.Proofs.YtcalmojhdpagoaaDoor
