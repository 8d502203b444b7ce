/- Words used by all proofs of this seat: blocks that are known whole, slices that came in and read as lists of cells, events as lists. -/
import Derived.Below
import Derived.Laws.OwnMore
import Derived.Deep.AppendLies
import Derived.Deep.Draws
import Derived.Laws.Rows
import Derived.OwnWalk
import Derived.Laws.AppendOwn
import Derived.Laws.MakeOwn
import Derived.Laws.Entries
import Derived.Laws.CopyOwn
import Derived.Lib.Hide
namespace Go.Proofs.YtcalmojhdpagoaaDoor
open Go.RowKit

/-! ### A block that is known whole -/
/-- Block g holds just the cells cs, elements of type t, and none of them is frozen. -/
def Row (w : World) (g : Nat) (t : TypeId) (cs : List Value) : Prop := w.heap[g]? = some (.cells cs.toArray t (0, 0))

section
variable {w w' : World} {g : Nat} {t : TypeId} {cs : List Value}
theorem Row.lt (h : Row w g t cs) : g < w.heap.size := (Array.getElem?_eq_some_iff.1 h).1
theorem Row.cell (h : Row w g t cs) (i : Nat) : w.cell? ⟨g, i, none⟩ = cs[i]? := by
  unfold Row at h; simp [World.cell?, h]
theorem Row.free (h : Row w g t cs) (i : Nat) : w.frozen? ⟨g, i, none⟩ = false := by
  unfold Row at h; simp [World.frozen?, h]
theorem Row.made (w : World) (t : TypeId) (cs : List Value) : Row (w.alloc (.cells cs.toArray t)) w.heap.size t cs := heap_alloc_new w _
theorem Row.alloc (h : Row w g t cs) (o : Obj) : Row (w.alloc o) g t cs := (heap_alloc_old w o g h.lt).trans h
theorem Row.drewN (h : Row w g t cs) (n : Nat) : Row (w.drewN n) g t cs := h
theorem Row.drew (h : Row w g t cs) : Row w.drew g t cs := h
theorem Row.below {B : Nat} (h : Row w g t cs) (hb : Below B w w') (hg : g < B) : Row w' g t cs := (hb.block g hg).trans h
theorem Row.set (h : Row w g t cs) (i : Nat) (u : Value) : Row (w.setCell ⟨g, i, none⟩ u) g t (cs.set i u) := by
  unfold Row at h ⊢
  simp [World.setCell, Array.getElem?_modify, h]
theorem Row.setFar (h : Row w g t cs) {p : Addr} (hp : g ≠ p.block) (u : Value) : Row (w.setCell p u) g t cs := (heap_setCell_other w p g u hp).trans h
theorem Row.turn (h : Row w g t cs) (cs' : List Value) : Row (w.setRow g cs'.toArray) g t cs' := setRow_heap w g _ _ t _ h
theorem Row.grown {row : Option Nat} (h : Row w g t cs) (hb : w.grownBy w' row) (hg : some g ≠ row) : Row w' g t cs := (hb.block g h.lt hg).trans h
end

/-! ### What lies at an address -/
/-- The cells cs lie at address A, one behind the other (where there is one at all). -/
def Lies (w : World) (A : Option Addr) (cs : List Value) : Prop :=
  0 < cs.length → ∃ b off, A = some ⟨b, off, none⟩ ∧ b < w.heap.size ∧ ∀ (j : Nat) u, cs[j]? = some u → w.cell? ⟨b, off + j, none⟩ = some u

theorem Lies.none_ (w : World) (A : Option Addr) : Lies w A [] := fun h => by simp at h
theorem Lies.below {w w' : World} {A : Option Addr} {cs : List Value} {B : Nat} (h : Lies w A cs) (hb : Below B w w') (hB : B = w.heap.size) : Lies w' A cs := fun hl => by
  obtain ⟨b, off, e, hlt, hc⟩ := h hl
  exact ⟨b, off, e, Nat.lt_of_lt_of_le hlt hb.size, fun j u hu => (hb.cell (p := ⟨b, off + j, none⟩) (by rw [hB]; exact hlt)).trans (hc j u hu)⟩
theorem Lies.drewN {w : World} {A : Option Addr} {cs : List Value} (h : Lies w A cs) (n : Nat) : Lies (w.drewN n) A cs := h
theorem Lies.row {w : World} {g : Nat} {t : TypeId} {cs : List Value} (h : Row w g t cs) {ds : List Value} (hp : ∀ (j : Nat) u, ds[j]? = some u → cs[j]? = some u) : Lies w (some ⟨g, 0, none⟩) ds := fun _ =>
  ⟨g, 0, rfl, h.lt, fun j u hu => by rw [Nat.zero_add, h.cell]; exact hp j u hu⟩

/-! ### Events -/
/-- An event. -/
structure Ev where
  k : Int
  p : Int
  s : ByteArray

def Ev.cells (e : Ev) : List Value := [.int .i64 e.k, .int .i64 e.p, .string e.s]
def flat (l : List Ev) : List Value := l.flatMap Ev.cells

theorem flat_append (l m : List Ev) : flat (l ++ m) = flat l ++ flat m := by simp [flat]
theorem flat_length (l : List Ev) : (flat l).length = l.length * 3 := by
  induction l with
  | nil => rfl
  | cons e l ih => simp only [flat, List.flatMap_cons, List.length_append] at *; rw [ih]; simp [Ev.cells]; omega
theorem flat_one (l : List Ev) : ∀ u ∈ flat l, u.oneCell' = true := by
  intro u hu
  simp only [flat, List.mem_flatMap, Ev.cells] at hu
  obtain ⟨e, _, h⟩ := hu
  simp at h
  rcases h with rfl | rfl | rfl <;> rfl

theorem flat_at (l : List Ev) (i : Nat) (h : i < l.length) : (flat l)[i * 3]? = some (.int .i64 l[i].k) ∧ (flat l)[i * 3 + 1]? = some (.int .i64 l[i].p) ∧ (flat l)[i * 3 + 2]? = some (.string l[i].s) := by
  induction l generalizing i with
  | nil => simp at h
  | cons e l ih =>
    cases i with
    | zero => simp [flat, Ev.cells]
    | succ i =>
      have := ih i (by simpa using h)
      simp only [flat, List.flatMap_cons] at *
      have e3 : e.cells.length = 3 := rfl
      refine ⟨?_, ?_, ?_⟩
      · rw [List.getElem?_append_right (by omega), show (i + 1) * 3 - e.cells.length = i * 3 by omega]; simpa using this.1
      · rw [List.getElem?_append_right (by omega), show (i + 1) * 3 + 1 - e.cells.length = i * 3 + 1 by omega]; simpa using this.2.1
      · rw [List.getElem?_append_right (by omega), show (i + 1) * 3 + 2 - e.cells.length = i * 3 + 2 by omega]; simpa using this.2.2

/-- The events l lie at address A in the world w. -/
def Evs (w : World) (A : Option Addr) (l : List Ev) : Prop := Lies w A (flat l)

theorem Evs.at_ {w : World} {A : Option Addr} {l : List Ev} (h : Evs w A l) (h0 : 0 < l.length) :
    ∃ b off, A = some ⟨b, off, none⟩ ∧ b < w.heap.size ∧ ∀ i, (hi : i < l.length) → w.cell? ⟨b, off + i * 3, none⟩ = some (.int .i64 l[i].k) ∧ w.cell? ⟨b, off + i * 3 + 1, none⟩ = some (.int .i64 l[i].p) ∧ w.cell? ⟨b, off + i * 3 + 2, none⟩ = some (.string l[i].s) := by
  obtain ⟨b, off, e, hlt, hc⟩ := h (by rw [flat_length]; omega)
  exact ⟨b, off, e, hlt, fun i hi => ⟨hc _ _ (flat_at l i hi).1, by rw [Nat.add_assoc]; exact hc _ _ (flat_at l i hi).2.1, by rw [Nat.add_assoc]; exact hc _ _ (flat_at l i hi).2.2⟩⟩

/-! ### make and copy, whatever the elements' size -/
theorem make_row {P : Program} (t e : TypeId) (i : TypeInfo) (z : Value) (ht : P.underlying t = some (.slice e)) (hi : P.info? e = some i) (hz : i.zero = some z)
    (n : Nat) (hbytes : i.bytes * n ≤ 281474976710656) (h63 : n ≤ 9223372036854775807) (w : World) :
    (Instr.makeSlice t (.int .i64 (n : Int)) (.int .i64 (n : Int))).run P w = .ok (.slice (some ⟨w.heap.size, 0, none⟩) n n) (w.alloc (.cells (madeCells z.cells (n * i.size)) e)) := by
  have hb : (i.bytes : Int) * (n : Int) ≤ 281474976710656 := by
    have h : ((i.bytes * n : Nat) : Int) ≤ 281474976710656 := by omega
    rwa [Int.natCast_mul] at h
  simpa using run_make (P := P) w t e i z ht hi hz .i64 .i64 n n (by omega) (by omega) hb (by omega)

/-- copy(dst, src), dst at the head of a block that is known whole, src a slice that came in and is no longer than dst; nil is let in. -/
theorem copy_head {P : Program} {w : World} (dT elem : TypeId) (size g dLen dCap : Nat) (A : Option Addr) (n c : Nat) (cur : List Value) (t : TypeId) (cs : List Value)
    (hu : P.underlying dT = some (.slice elem)) (hs : (P.info? elem).map (·.size) = some size)
    (hg : Row w g t cur) (hl : cs.length = n * size) (hpos : 0 < size) (hr : Lies w A cs) (hle : n ≤ dLen) (hfit : cs.length ≤ cur.length) (h1 : ∀ v ∈ cs, v.oneCell' = true) :
    ∃ w', (∀ ty, (Builtin.copy_ #[dT, dT] ty #[.slice (some ⟨g, 0, none⟩) dLen dCap, .slice A n c]).run P w = .ok (.int .i64 n) w') ∧ Row w' g t (cs ++ cur.drop cs.length) ∧ (∀ B', B' ≤ g → Below B' w w') := by
  have hmin : Nat.min n dLen = n := Nat.min_eq_left hle
  cases hq : P.info? elem with
  | none => simp [hq] at hs
  | some i =>
    have his : i.size = size := by simpa [hq] using hs
    rcases Nat.eq_zero_or_pos n with h0 | h0
    · subst h0
      have hcs : cs = [] := List.eq_nil_of_length_eq_zero (by simpa using hl)
      subst hcs
      refine ⟨w, fun ty => ?_, by simpa using hg, fun B' _ => Below.refl _ _⟩
      have hl : ∀ a : Addr, (loadCells a 0).run P w = .ok #[] w := fun a => by
        have := run_loadCells_list (P := P) w a [] (by simp)
        simpa using this
      cases A <;> simp [Builtin.copy_, run_underlying hu, Builtin.lenOf, Builtin.firstCells, sizeOf, typeInfo, hq, hl, storeCells, goInt]
    · obtain ⟨b, off, rfl, hb, hc⟩ := hr (by rw [hl]; exact Nat.mul_pos h0 hpos)
      have hld := run_loadCells_list (P := P) w ⟨b, off, none⟩ cs (fun j v hv => by rw [Addr.add_lit]; exact hc j v hv)
      have hst := run_storeCells_at P g 0 t cs 0 cur.toArray w hg (by simpa using hfit) h1
      rw [hl] at hld
      refine ⟨_, fun ty => ?_, hg.turn (cs ++ cur.drop cs.length), fun B' hB => below_setRow (Below.refl _ _) hB _⟩
      simp [Builtin.copy_, run_underlying hu, Builtin.lenOf, Builtin.firstCells, sizeOf, typeInfo, hq, his, hmin, hld, goInt]
      simp at hst
      simp [hst]

theorem ret_int {k : IntKind} {a b : Int} (h : a = b) : Ending.returned (.int k a) = Ending.returned (.int k b) := by rw [h]
theorem below_drewN {B : Nat} {a w : World} (h : Below B a w) (n : Nat) : Below B a (w.drewN n) := ⟨h.os, h.tape, h.output, h.size, h.block⟩
theorem below_of_drewN (B : Nat) (w : World) (n : Nat) : Below B w (w.drewN n) := below_drewN (Below.refl _ _) n
end Go.Proofs.YtcalmojhdpagoaaDoor
