/- Words used by all proofs of this seat: blocks that are known whole, data as values; the small functions of package number. -/
import Derived.Test.YtehakhplglhkdaaGreatDoorRows
import Derived.Below
import Derived.Laws.OwnMore
import Derived.Deep.AppendLies
import Derived.Deep.Draws
import Derived.Laws.Rows
import Derived.OwnWalk
import Derived.Laws.Entries
import Derived.WalkKit
import Derived.Handy
import Derived.Lib.Hide
namespace Go.Proofs.YtehakhplglhkdaaGreatDoor
set_option linter.unusedVariables false
open Go.RowKit

/-! ### A block that is known whole -/
/-- Block g holds just the cells cs, elements of type t, and none of them is frozen. -/
def Row (w : World) (g : Nat) (t : TypeId) (cs : List Value) : Prop := w.heap[g]? = some (.cells cs.toArray t (0, 0))

section
variable {w w' : World} {g : Nat} {t : TypeId} {cs : List Value}
theorem Row.lt (h : Row w g t cs) : g < w.heap.size := (Array.getElem?_eq_some_iff.1 h).1
theorem Row.cell (h : Row w g t cs) (i : Nat) : w.cell? ⟨g, i, none⟩ = cs[i]? := by
  unfold Row at h; simp [World.cell?, h]
theorem Row.free (h : Row w g t cs) (i : Nat) : w.frozen? ⟨g, i, none⟩ = false := by
  unfold Row at h; simp [World.frozen?, h]
theorem Row.made (w : World) (t : TypeId) (cs : List Value) : Row (w.alloc (.cells cs.toArray t)) w.heap.size t cs := heap_alloc_new w _
theorem row_old (w : World) (o : Obj) (i : Nat) (h : i < w.heap.size) : (w.alloc o).heap[i]? = w.heap[i]? := by
  show (w.heap.push o)[i]? = w.heap[i]?
  rw [Array.getElem?_push, if_neg (Nat.ne_of_lt h)]
theorem Row.alloc (h : Row w g t cs) (o : Obj) : Row (w.alloc o) g t cs := (row_old w o g h.lt).trans h
theorem Row.drewN (h : Row w g t cs) (n : Nat) : Row (w.drewN n) g t cs := h
theorem Row.drew (h : Row w g t cs) : Row w.drew g t cs := h
theorem Row.below {B : Nat} (h : Row w g t cs) (hb : Below B w w') (hg : g < B) : Row w' g t cs := (hb.block g hg).trans h
theorem Row.set (h : Row w g t cs) (i : Nat) (u : Value) : Row (w.setCell ⟨g, i, none⟩ u) g t (cs.set i u) := by
  unfold Row at h ⊢
  simp [World.setCell, Array.getElem?_modify, h]
theorem Row.setFar (h : Row w g t cs) {p : Addr} (hp : g ≠ p.block) (u : Value) : Row (w.setCell p u) g t cs := (heap_setCell_other w p g u hp).trans h
theorem Row.turn (h : Row w g t cs) (cs' : List Value) : Row (w.setRow g cs'.toArray) g t cs' := setRow_heap w g _ _ t _ h
theorem Row.grown {row : Option Nat} (h : Row w g t cs) (hb : w.grownBy w' row) (hg : some g ≠ row) : Row w' g t cs := (hb.block g h.lt hg).trans h
end

/-! ### What lies at an address -/
/-- The cells cs lie at address A, one behind the other (where there is one at all). -/
def Lies (w : World) (A : Option Addr) (cs : List Value) : Prop :=
  0 < cs.length → ∃ b off, A = some ⟨b, off, none⟩ ∧ b < w.heap.size ∧ ∀ (j : Nat) u, cs[j]? = some u → w.cell? ⟨b, off + j, none⟩ = some u

theorem Lies.none_ (w : World) (A : Option Addr) : Lies w A [] := fun h => by simp at h
theorem Lies.below {w w' : World} {A : Option Addr} {cs : List Value} {B : Nat} (h : Lies w A cs) (hb : Below B w w') (hB : B = w.heap.size) : Lies w' A cs := fun hl => by
  obtain ⟨b, off, e, hlt, hc⟩ := h hl
  exact ⟨b, off, e, Nat.lt_of_lt_of_le hlt hb.size, fun j u hu => (hb.cell (p := ⟨b, off + j, none⟩) (by rw [hB]; exact hlt)).trans (hc j u hu)⟩
theorem Lies.drewN {w : World} {A : Option Addr} {cs : List Value} (h : Lies w A cs) (n : Nat) : Lies (w.drewN n) A cs := h
theorem Lies.row {w : World} {g : Nat} {t : TypeId} {cs : List Value} (h : Row w g t cs) {ds : List Value} (hp : ∀ (j : Nat) u, ds[j]? = some u → cs[j]? = some u) : Lies w (some ⟨g, 0, none⟩) ds := fun _ =>
  ⟨g, 0, rfl, h.lt, fun j u hu => by rw [Nat.zero_add, h.cell]; exact hp j u hu⟩


theorem below_drewN {B : Nat} {a w : World} (h : Below B a w) (n : Nat) : Below B a (w.drewN n) := ⟨h.os, h.tape, h.output, h.size, h.block⟩
theorem below_low {B B1 : Nat} {a b : World} (h : Below B a b) (hB : B1 ≤ B) : Below B1 a b := ⟨h.os, h.tape, h.output, h.size, fun k hk => h.block k (by omega)⟩
theorem below_more {B : Nat} {w a b : World} (h : Below B w a) (h2 : Below a.heap.size a b) (hB : B ≤ a.heap.size) : Below B w b := h.trans (below_low h2 hB)

theorem below1 (w : World) (A : Obj) : Below w.heap.size w (w.alloc A) := (Below.refl _ _).alloc (Nat.le_refl _) _
theorem below2 (w : World) (A B : Obj) : Below w.heap.size w ((w.alloc A).alloc B) := (below1 w A).alloc (by simp) _
theorem below3 (w : World) (A B C : Obj) : Below w.heap.size w (((w.alloc A).alloc B).alloc C) := (below2 w A B).alloc (by simp; omega) _
theorem below4 (w : World) (A B C D : Obj) : Below w.heap.size w ((((w.alloc A).alloc B).alloc C).alloc D) := (below3 w A B C).alloc (by simp; omega) _
theorem below5 (w : World) (A B C D E : Obj) : Below w.heap.size w (((((w.alloc A).alloc B).alloc C).alloc D).alloc E) := (below4 w A B C D).alloc (by simp; omega) _

/-- What the walk reads of a block of eleven cells. -/
theorem row11 {w : World} {g : Nat} {t : TypeId} {v0 v1 v2 v3 v4 v5 v6 v7 v8 v9 v10 : Value} (h : Row w g t [v0, v1, v2, v3, v4, v5, v6, v7, v8, v9, v10]) :
    w.cell? ⟨g, 0, none⟩ = some v0 ∧ w.cell? ⟨g, 1, none⟩ = some v1 ∧ w.cell? ⟨g, 2, none⟩ = some v2 ∧ w.cell? ⟨g, 3, none⟩ = some v3 ∧ w.cell? ⟨g, 4, none⟩ = some v4 ∧ w.cell? ⟨g, 5, none⟩ = some v5 ∧ w.cell? ⟨g, 6, none⟩ = some v6 ∧ w.cell? ⟨g, 7, none⟩ = some v7 ∧ w.cell? ⟨g, 8, none⟩ = some v8 ∧ w.cell? ⟨g, 9, none⟩ = some v9 ∧ w.cell? ⟨g, 10, none⟩ = some v10 ∧ ∀ j, w.frozen? ⟨g, j, none⟩ = false :=
  ⟨h.cell 0, h.cell 1, h.cell 2, h.cell 3, h.cell 4, h.cell 5, h.cell 6, h.cell 7, h.cell 8, h.cell 9, h.cell 10, h.free⟩
/-- The cells of a new datum. -/
def zeroC : List Value := [.int .i64 0, .string ⟨#[]⟩, .int .i64 0, .int .u64 0, .string ⟨#[]⟩, .int .i64 0, .int .i64 0, .int .i64 0, .int .i64 0, .slice none 0 0, .slice none 0 0]

/-! ### Data -/
/-- A datum. -/
structure Dat where
  k : Int
  t : ByteArray
  n : Int
  f : Int
  s : ByteArray
  ro : Int
  rf : Int
  rl : Int
  rc : Int
  pa : Option Addr
  pn : Nat
  pc : Nat
  ia : Option Addr
  iN : Nat
  ic : Nat
def Dat.val (d : Dat) : Value := .agg #[.int .i64 d.k, .string d.t, .int .i64 d.n, .int .u64 d.f, .string d.s, .int .i64 d.ro, .int .i64 d.rf, .int .i64 d.rl, .int .i64 d.rc, .slice d.pa d.pn d.pc, .slice d.ia d.iN d.ic]
/-- A datum of a kind, a type, a number, bits, a text; no more. -/
def mk (k : Int) (t : ByteArray) (n f : Int) (s : ByteArray) : Dat := ⟨k, t, n, f, s, 0, 0, 0, 0, none, 0, 0, none, 0, 0⟩
def sBool : ByteArray := ⟨#[98, 111, 111, 108]⟩

theorem whole_any (t : ByteArray) (n : Int) (w : World) : Calls Tryz.prog 35 #[.string t, .int .i64 n] w fun e w' => e = .returned (mk 2 t n 0 ⟨#[]⟩).val ∧ Below w.heap.size w w' := by
  go_enter Tryz.func35, Tryz.ntmps35
  go_wp2
  go_returns
  exact ⟨rfl, by go_grown⟩
theorem boolean_any (t : Bool) (w : World) : Calls Tryz.prog 38 #[.bool t] w fun e w' => e = .returned (mk 1 sBool (if t then 1 else 0) 0 ⟨#[]⟩).val ∧ Below w.heap.size w w' := by
  cases t <;>
  · go_enter Tryz.func38, Tryz.ntmps38
    go_wp2
    go_returns
    exact ⟨rfl, by go_grown⟩
theorem fault_any (x y : ByteArray) (w : World) : Calls Tryz.prog 65 #[.string x, .string y] w fun e w' => ∃ g, e = .returned (.iface 64 (.pointer (some ⟨g, 0, none⟩))) ∧ w.heap.size ≤ g ∧ Row w' g 35 [.string x, .string y] ∧ Below w.heap.size w w' := by
  go_enter Tryz.func65, Tryz.ntmps65
  go_wp2
  go_returns
  exact ⟨w.heap.size, rfl, Nat.le_refl _, Row.made _ _ _, by go_grown⟩
/-- A type's name, as it is told. -/
def nameOf (d : Dat) : ByteArray := if d.k = 0 then ⟨#[110, 105, 108]⟩ else if d.k = 9 then ⟨#[42]⟩ ++ d.t else d.t
theorem name_any (d : Dat) (w : World) (hd : d.t.size ≤ 9223372036854775806) : Calls Tryz.prog 34 #[d.val] w fun e w' => e = .returned (.string (nameOf d)) ∧ Below w.heap.size w w' := by
  unfold Dat.val nameOf
  have hsz : (1 : Int) + (d.t.size : Int) ≤ 9223372036854775807 := by omega
  by_cases h0 : d.k = 0
  · rw [if_pos h0]
    have h0' : (d.k == 0) = true := by simp [h0]
    clear h0
    go_enter Tryz.func34, Tryz.ntmps34
    go_wp2
    go_returns
    exact ⟨rfl, by go_grown⟩
  · rw [if_neg h0]
    have h0' : (d.k == 0) = false := by simp [h0]
    by_cases h9 : d.k = 9
    · rw [if_pos h9]
      have h9' : (d.k == 9) = true := by simp [h9]
      clear h0 h9
      go_enter Tryz.func34, Tryz.ntmps34
      go_wp2
      go_returns
      exact ⟨rfl, by go_grown⟩
    · rw [if_neg h9]
      have h9' : (d.k == 9) = false := by simp [h9]
      clear h0 h9
      go_enter Tryz.func34, Tryz.ntmps34
      go_wp2
      go_returns
      exact ⟨rfl, by go_grown⟩
end Go.Proofs.YtehakhplglhkdaaGreatDoor
