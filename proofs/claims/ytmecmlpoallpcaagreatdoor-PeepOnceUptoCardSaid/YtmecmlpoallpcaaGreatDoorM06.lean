/- Texts of this proof, put together: Base, WalkA, Ints. -/
import Derived.Test.YtmecmlpoallpcaaGreatDoorRows
import Derived.Test.YtmecmlpoallpcaaGreatDoorM03
import Derived.Below
import Derived.Laws.OwnMore
import Derived.Deep.AppendLies
import Derived.Deep.Draws
import Derived.Laws.Rows
import Derived.OwnWalk
import Derived.Laws.AppendOwn
import Derived.Laws.MakeOwn
import Derived.Laws.Entries
import Derived.Laws.CopyOwn
import Derived.Lib.Hide
import Derived.Handy
import Derived.WalkKit
import Derived.Laws.Tables
set_option linter.unusedSimpArgs false
/- Words used by all proofs of this seat: blocks that are known whole, slices that came in and read as lists of cells, instructions as lists. -/
namespace Go.Proofs.YtmecmlpoallpcaaGreatDoor
set_option linter.unusedVariables false
open Go.RowKit Go.Proofs.PeepPlain

/-! ### A block that is known whole -/
/-- Block g holds just the cells cs, elements of type t, and none of them is frozen. -/
def Row (w : World) (g : Nat) (t : TypeId) (cs : List Value) : Prop := w.heap[g]? = some (.cells cs.toArray t (0, 0))

section
variable {w w' : World} {g : Nat} {t : TypeId} {cs : List Value}
theorem Row.lt (h : Row w g t cs) : g < w.heap.size := (Array.getElem?_eq_some_iff.1 h).1
theorem Row.cell (h : Row w g t cs) (i : Nat) : w.cell? ⟨g, i, none⟩ = cs[i]? := by
  unfold Row at h; simp [World.cell?, h]
theorem Row.free (h : Row w g t cs) (i : Nat) : w.frozen? ⟨g, i, none⟩ = false := by
  unfold Row at h; simp [World.frozen?, h]
theorem Row.made (w : World) (t : TypeId) (cs : List Value) : Row (w.alloc (.cells cs.toArray t)) w.heap.size t cs := heap_alloc_new w _
theorem row_old (w : World) (o : Obj) (i : Nat) (h : i < w.heap.size) : (w.alloc o).heap[i]? = w.heap[i]? := by
  show (w.heap.push o)[i]? = w.heap[i]?
  rw [Array.getElem?_push, if_neg (Nat.ne_of_lt h)]
theorem Row.alloc (h : Row w g t cs) (o : Obj) : Row (w.alloc o) g t cs := (row_old w o g h.lt).trans h
theorem Row.drewN (h : Row w g t cs) (n : Nat) : Row (w.drewN n) g t cs := h
theorem Row.drew (h : Row w g t cs) : Row w.drew g t cs := h
theorem Row.below {B : Nat} (h : Row w g t cs) (hb : Below B w w') (hg : g < B) : Row w' g t cs := (hb.block g hg).trans h
theorem Row.set (h : Row w g t cs) (i : Nat) (u : Value) : Row (w.setCell ⟨g, i, none⟩ u) g t (cs.set i u) := by
  unfold Row at h ⊢
  simp [World.setCell, Array.getElem?_modify, h]
theorem Row.setFar (h : Row w g t cs) {p : Addr} (hp : g ≠ p.block) (u : Value) : Row (w.setCell p u) g t cs := (heap_setCell_other w p g u hp).trans h
theorem Row.turn (h : Row w g t cs) (cs' : List Value) : Row (w.setRow g cs'.toArray) g t cs' := setRow_heap w g _ _ t _ h
theorem Row.grown {row : Option Nat} (h : Row w g t cs) (hb : w.grownBy w' row) (hg : some g ≠ row) : Row w' g t cs := (hb.block g h.lt hg).trans h
end

/-! ### What lies at an address -/
/-- The cells cs lie at address A, one behind the other (where there is one at all). -/
def Lies (w : World) (A : Option Addr) (cs : List Value) : Prop :=
  0 < cs.length → ∃ b off, A = some ⟨b, off, none⟩ ∧ b < w.heap.size ∧ ∀ (j : Nat) u, cs[j]? = some u → w.cell? ⟨b, off + j, none⟩ = some u

theorem Lies.none_ (w : World) (A : Option Addr) : Lies w A [] := fun h => by simp at h
theorem Lies.below {w w' : World} {A : Option Addr} {cs : List Value} {B : Nat} (h : Lies w A cs) (hb : Below B w w') (hB : B = w.heap.size) : Lies w' A cs := fun hl => by
  obtain ⟨b, off, e, hlt, hc⟩ := h hl
  exact ⟨b, off, e, Nat.lt_of_lt_of_le hlt hb.size, fun j u hu => (hb.cell (p := ⟨b, off + j, none⟩) (by rw [hB]; exact hlt)).trans (hc j u hu)⟩
theorem Lies.drewN {w : World} {A : Option Addr} {cs : List Value} (h : Lies w A cs) (n : Nat) : Lies (w.drewN n) A cs := h
theorem Lies.row {w : World} {g : Nat} {t : TypeId} {cs : List Value} (h : Row w g t cs) {ds : List Value} (hp : ∀ (j : Nat) u, ds[j]? = some u → cs[j]? = some u) : Lies w (some ⟨g, 0, none⟩) ds := fun _ =>
  ⟨g, 0, rfl, h.lt, fun j u hu => by rw [Nat.zero_add, h.cell]; exact hp j u hu⟩

/-! ### Instructions -/
def cellsI (i : Ins) : List Value := [.int .i64 i.op, .int .i64 i.a, .int .i64 i.b, .string i.text, .int .i64 i.pos]
def flatI (l : List Ins) : List Value := l.flatMap cellsI
theorem flatI_append (l m : List Ins) : flatI (l ++ m) = flatI l ++ flatI m := by simp [flatI]
theorem flatI_length (l : List Ins) : (flatI l).length = l.length * 5 := by
  induction l with
  | nil => rfl
  | cons e l ih => simp only [flatI, List.flatMap_cons, List.length_append] at *; rw [ih]; simp [cellsI]; omega
theorem flatI_one (l : List Ins) : ∀ u ∈ flatI l, u.oneCell' = true := by
  intro u hu
  simp only [flatI, List.mem_flatMap, cellsI] at hu
  obtain ⟨e, _, h⟩ := hu
  simp at h
  rcases h with rfl | rfl | rfl | rfl | rfl <;> rfl
theorem flatI_at (l : List Ins) (i : Nat) (h : i < l.length) : (flatI l)[i * 5]? = some (.int .i64 l[i].op) ∧ (flatI l)[i * 5 + 1]? = some (.int .i64 l[i].a) ∧ (flatI l)[i * 5 + 2]? = some (.int .i64 l[i].b) ∧ (flatI l)[i * 5 + 3]? = some (.string l[i].text) ∧ (flatI l)[i * 5 + 4]? = some (.int .i64 l[i].pos) := by
  induction l generalizing i with
  | nil => simp at h
  | cons e l ih =>
    cases i with
    | zero => simp [flatI, cellsI]
    | succ i =>
      have := ih i (by simpa using h)
      simp only [flatI, List.flatMap_cons] at *
      have e5 : (cellsI e).length = 5 := rfl
      refine ⟨?_, ?_, ?_, ?_, ?_⟩
      · rw [List.getElem?_append_right (by omega), show (i + 1) * 5 - (cellsI e).length = i * 5 by omega]; simpa using this.1
      · rw [List.getElem?_append_right (by omega), show (i + 1) * 5 + 1 - (cellsI e).length = i * 5 + 1 by omega]; simpa using this.2.1
      · rw [List.getElem?_append_right (by omega), show (i + 1) * 5 + 2 - (cellsI e).length = i * 5 + 2 by omega]; simpa using this.2.2.1
      · rw [List.getElem?_append_right (by omega), show (i + 1) * 5 + 3 - (cellsI e).length = i * 5 + 3 by omega]; simpa using this.2.2.2.1
      · rw [List.getElem?_append_right (by omega), show (i + 1) * 5 + 4 - (cellsI e).length = i * 5 + 4 by omega]; simpa using this.2.2.2.2
/-- The instructions l lie at address A. -/
def InsAt (w : World) (A : Option Addr) (l : List Ins) : Prop := Lies w A (flatI l)
theorem InsAt.at_ {w : World} {A : Option Addr} {l : List Ins} (h : InsAt w A l) (h0 : 0 < l.length) :
    ∃ b off, A = some ⟨b, off, none⟩ ∧ b < w.heap.size ∧ ∀ i, (hi : i < l.length) → w.cell? ⟨b, off + i * 5, none⟩ = some (.int .i64 l[i].op) ∧ w.cell? ⟨b, off + i * 5 + 1, none⟩ = some (.int .i64 l[i].a) ∧ w.cell? ⟨b, off + i * 5 + 2, none⟩ = some (.int .i64 l[i].b) ∧ w.cell? ⟨b, off + i * 5 + 3, none⟩ = some (.string l[i].text) ∧ w.cell? ⟨b, off + i * 5 + 4, none⟩ = some (.int .i64 l[i].pos) := by
  obtain ⟨b, off, e, hlt, hc⟩ := h (by rw [flatI_length]; omega)
  exact ⟨b, off, e, hlt, fun i hi => ⟨hc _ _ (flatI_at l i hi).1, by rw [Nat.add_assoc]; exact hc _ _ (flatI_at l i hi).2.1, by rw [Nat.add_assoc]; exact hc _ _ (flatI_at l i hi).2.2.1, by rw [Nat.add_assoc]; exact hc _ _ (flatI_at l i hi).2.2.2.1, by rw [Nat.add_assoc]; exact hc _ _ (flatI_at l i hi).2.2.2.2⟩⟩
theorem InsAt.below {w w' : World} {A : Option Addr} {l : List Ins} (h : InsAt w A l) (hb : Below w.heap.size w w') : InsAt w' A l := Lies.below h hb rfl
theorem below_drewN {B : Nat} {a w : World} (h : Below B a w) (n : Nat) : Below B a (w.drewN n) := ⟨h.os, h.tape, h.output, h.size, h.block⟩
theorem below_low {B B1 : Nat} {a b : World} (h : Below B a b) (hB : B1 ≤ B) : Below B1 a b := ⟨h.os, h.tape, h.output, h.size, fun k hk => h.block k (by omega)⟩
theorem below_more {B : Nat} {w a b : World} (h : Below B w a) (h2 : Below a.heap.size a b) (hB : B ≤ a.heap.size) : Below B w b := h.trans (below_low h2 hB)
theorem below1 (w : World) (A : Obj) : Below w.heap.size w (w.alloc A) := (Below.refl _ _).alloc (Nat.le_refl _) _

/-! ### peep.jumps -/
theorem jumps_walk (op : Int) (w : World) : Calls Tryz.prog 88 #[.int .i64 op] w fun e w' => e = .returned (.bool (decide (jumps op))) ∧ w' = w := by
  by_cases h1 : op = 34
  · subst h1
    go_enter Tryz.func88, Tryz.ntmps88
    go_wp2
    go_ret
    exact ⟨rfl, rfl⟩
  · by_cases h2 : op = 35
    · subst h2
      go_enter Tryz.func88, Tryz.ntmps88
      go_wp2
      go_ret
      exact ⟨rfl, rfl⟩
    · by_cases h3 : op = 36
      · subst h3
        go_enter Tryz.func88, Tryz.ntmps88
        go_wp2
        go_ret
        exact ⟨rfl, rfl⟩
      · by_cases h4 : op = 37
        · subst h4
          go_enter Tryz.func88, Tryz.ntmps88
          go_wp2
          go_ret
          exact ⟨rfl, rfl⟩
        · by_cases h5 : op = 52
          · subst h5
            go_enter Tryz.func88, Tryz.ntmps88
            go_wp2
            go_ret
            exact ⟨rfl, rfl⟩
          · have hd : decide (jumps op) = false := decide_eq_false (by rintro (h | h | h | h | h) <;> contradiction)
            have b1 : (op == 34) = false := beq_eq_false_iff_ne.2 h1
            have b2 : (op == 35) = false := beq_eq_false_iff_ne.2 h2
            have b3 : (op == 36) = false := beq_eq_false_iff_ne.2 h3
            have b4 : (op == 37) = false := beq_eq_false_iff_ne.2 h4
            have b5 : (op == 52) = false := beq_eq_false_iff_ne.2 h5
            rw [hd]
            clear h1 h2 h3 h4 h5 hd
            go_enter Tryz.func88, Tryz.ntmps88
            go_wp2
            go_ret
            exact ⟨rfl, rfl⟩
end Go.Proofs.YtmecmlpoallpcaaGreatDoor

/- peep.marks: who is named. Condition: the code is right but for the stack. -/
namespace Go.Proofs.YtmecmlpoallpcaaGreatDoor
set_option linter.unusedVariables false
open Go.RowKit Go.Proofs.PeepPlain

theorem setRow_far (w : World) (g k : Nat) (cs : Array Value) (h : k ≠ g) : (w.setRow g cs).heap[k]? = w.heap[k]? := by
  simp [World.setRow, Array.getElem?_modify, Ne.symm h]
/-- *x = v, x some cells of a block that is known whole. -/
theorem put_at {ops : Array Oper} {rest : List Oper} {o : Oper} {a : Act} {Q : Exit → Act → World → Prop} (x y : Operand) (ty : TypeId) (g i : Nat) (t : TypeId) (old vs : List Value) (v : Value) (w : World)
    (hgd : o.guard = none) (ho : o.op = .store ty x y) (hx : a.eval x = .pointer (some ⟨g, i, none⟩)) (hy : a.eval y = v) (hv : v.cells = vs.toArray) (hsz : (Tryz.prog.info? ty).map (·.size) = some vs.length)
    (h1 : ∀ u ∈ vs, u.oneCell' = true) (hr : Row w g t old) (hfit : i + vs.length ≤ old.length)
    (h : ∀ w', Row w' g t (old.take i ++ vs ++ old.drop (i + vs.length)) → (∀ B, B ≤ g → Below B w w') → (∀ k, k ≠ g → w'.heap[k]? = w.heap[k]?) → wpList Tryz.prog ops Q rest (a.put o.dst undef) w') : wpList Tryz.prog ops Q (o :: rest) a w := by
  have hst := run_storeCells_at (P := Tryz.prog) g i t vs 0 old.toArray w hr (by simpa using hfit) h1
  simp only [Nat.add_zero] at hst
  have hh := h _ (hr.turn (old.take i ++ vs ++ old.drop (i + vs.length))) (fun B hB => below_setRow (Below.refl _ _) hB _) (fun k hk => setRow_far w g k _ hk)
  refine wpList_plain hgd fun _ hK => ?_
  cases hq : Tryz.prog.info? ty with
  | none => simp [hq] at hsz
  | some j =>
    have hs : j.size = vs.length := by simpa [hq] using hsz
    have hrun : (storeVar ty ⟨g, i, none⟩ v).run Tryz.prog w = .ok () (w.setRow g (old.take i ++ vs ++ old.drop (i + vs.length)).toArray) := by
      simp [storeVar, sizeOf, typeInfo, hq, hs, hv]
      simpa using hst
    unfold Oper.wp execOp
    simp only [ho, hx, hy, Instr.storeAt, Instr.sureAddr, Sem.run_bind, Sem.run_pure, Result.andThen_ok, hrun]
    exact hK _ _ hh
theorem set_take_drop (L : List Value) (i : Nat) (u : Value) (h : i < L.length) : L.take i ++ [u] ++ L.drop (i + 1) = L.set i u := by
  rw [List.set_eq_take_append_cons_drop, if_pos h]
  simp
/-- What lies in another block than the one that was written. -/
theorem InsAt.far {w w' : World} {A : Option Addr} {l : List Ins} {g : Nat} (h : InsAt w A l) (hne : 0 < l.length → ∀ a, A = some a → a.block ≠ g) (hs : w.heap.size ≤ w'.heap.size) (hf : ∀ k, k ≠ g → w'.heap[k]? = w.heap[k]?) : InsAt w' A l := fun hp => by
  obtain ⟨b, off, e, hlt, hc⟩ := h hp
  have hb := hne (by rw [flatI_length] at hp; omega) _ e
  exact ⟨b, off, e, Nat.lt_of_lt_of_le hlt hs, fun j u hu => (World.cell?_of_block (a := ⟨b, off + j, none⟩) (hf b hb)).trans (hc j u hu)⟩
theorem InsAt.old {w : World} {A : Option Addr} {l : List Ins} (h : InsAt w A l) : 0 < l.length → ∀ a, A = some a → a.block < w.heap.size := fun hp a ha => by
  obtain ⟨b, off, e, hlt, _⟩ := h.at_ hp
  rw [ha] at e
  have e2 := Option.some.inj e
  rw [e2]
  exact hlt
theorem info4 : (Tryz.prog.info? 4).map (fun i => (i.zero, i.size, i.bytes)) = some (some (.bool false), 1, 1) := by kernel_rfl
theorem size4 : (Tryz.prog.info? 4).map (·.size) = some 1 := by kernel_rfl
def boolC (l : List Bool) : List Value := l.map Value.bool
theorem boolC_length (l : List Bool) : (boolC l).length = l.length := by simp [boolC]
theorem boolC_set (l : List Bool) (k : Nat) (b : Bool) : boolC (l.set k b) = (boolC l).set k (.bool b) := by simp [boolC, List.map_set]
theorem made_bools (n : Nat) : (madeCells (Value.bool false).cells (n * 1)).toList = boolC (List.replicate n false) := by
  have := toList_madeCells_one (.bool false) n
  simp only [Nat.mul_one]
  show (madeCells #[.bool false] n).toList = _
  rw [this]
  simp [boolC]
theorem make_bools (n : Nat) (h : n ≤ 2000000) (w : World) : (Instr.makeSlice 87 (.int .i64 (n : Int)) (.int .i64 (n : Int))).run Tryz.prog w = .ok (.slice (some ⟨w.heap.size, 0, none⟩) n n) (w.alloc (.cells (boolC (List.replicate n false)).toArray 4)) := by
  obtain ⟨i0, hi, hz0, hz1, hz2⟩ := info_parts info4
  have hb : (i0.bytes : Int) * (n : Int) ≤ 281474976710656 := by rw [hz2]; omega
  have := run_make (P := Tryz.prog) w 87 4 i0 _ Tryz.underlying87 hi hz0 .i64 .i64 n n (by omega) (by omega) hb (by omega)
  rw [← made_bools, ← hz1]
  simpa using this
/-- Is t named by one of the first k? -/
noncomputable def namedBy (l : List Ins) (k t : Nat) : Bool := by
  classical
  exact decide (∃ j, j < k ∧ jumps (opAt l j) ∧ aAt l j = t)
theorem namedBy_iff {l : List Ins} {k t : Nat} : namedBy l k t = true ↔ ∃ j, j < k ∧ jumps (opAt l j) ∧ aAt l j = t := by
  unfold namedBy
  simp
theorem namedBy_eq {l m : List Ins} {k k' t t' : Nat} (h : namedBy l k t = true ↔ namedBy m k' t' = true) : namedBy l k t = namedBy m k' t' := by
  cases h1 : namedBy l k t <;> cases h2 : namedBy m k' t' <;> simp_all
/-- Who is named by the first k. -/
noncomputable def marksTo (l : List Ins) (k : Nat) : List Bool := (List.range l.length).map (namedBy l k)
theorem marksTo_length (l : List Ins) (k : Nat) : (marksTo l k).length = l.length := by simp [marksTo]
theorem marksTo_get {l : List Ins} {k i : Nat} (h : i < l.length) : (marksTo l k)[i]? = some (namedBy l k i) := by
  unfold marksTo
  rw [List.getElem?_map, List.getElem?_range h]
  rfl
theorem marksTo_zero (l : List Ins) : marksTo l 0 = List.replicate l.length false := by
  apply List.ext_getElem?
  intro i
  by_cases h : i < l.length
  · rw [marksTo_get h, List.getElem?_replicate, if_pos h]
    cases hb : namedBy l 0 i with
    | false => rfl
    | true =>
      obtain ⟨j, h1, _⟩ := namedBy_iff.1 hb
      omega
  · rw [List.getElem?_eq_none (by rw [marksTo_length]; omega), List.getElem?_eq_none (by simp; omega)]
theorem marksTo_all (l : List Ins) : marksTo l l.length = marks l := rfl
theorem marksTo_yes {l : List Ins} {k : Nat} (hj : jumps (opAt l k)) : (marksTo l k).set (aAt l k) true = marksTo l (k + 1) := by
  apply List.ext_getElem?
  intro i
  by_cases h : i < l.length
  · rw [List.getElem?_set, marksTo_get h, marksTo_get h]
    by_cases e : aAt l k = i
    · rw [if_pos e, if_pos (by rw [marksTo_length]; omega)]
      congr 1
      exact (namedBy_iff.2 ⟨k, by omega, hj, e⟩).symm
    · rw [if_neg e]
      congr 1
      apply namedBy_eq
      rw [namedBy_iff, namedBy_iff]
      constructor
      · rintro ⟨j, h3, h4, h5⟩; exact ⟨j, by omega, h4, h5⟩
      · rintro ⟨j, h3, h4, h5⟩
        by_cases h6 : j = k
        · subst h6; exact absurd h5 e
        · exact ⟨j, by omega, h4, h5⟩
  · rw [List.getElem?_eq_none (by rw [List.length_set, marksTo_length]; omega), List.getElem?_eq_none (by rw [marksTo_length]; omega)]
theorem marksTo_no {l : List Ins} {k : Nat} (hj : ¬ jumps (opAt l k)) : marksTo l k = marksTo l (k + 1) := by
  apply List.ext_getElem?
  intro i
  by_cases h : i < l.length
  · rw [marksTo_get h, marksTo_get h]
    congr 1
    apply namedBy_eq
    rw [namedBy_iff, namedBy_iff]
    constructor
    · rintro ⟨j, h3, h4, h5⟩; exact ⟨j, by omega, h4, h5⟩
    · rintro ⟨j, h3, h4, h5⟩
      by_cases h6 : j = k
      · subst h6; exact absurd h4 hj
      · exact ⟨j, by omega, h4, h5⟩
  · rw [List.getElem?_eq_none (by rw [marksTo_length]; omega), List.getElem?_eq_none (by rw [marksTo_length]; omega)]
theorem op_get {l : List Ins} {k : Nat} (h : k < l.length) : opAt l k = l[k].op := by
  unfold opAt
  rw [List.getD_eq_getElem?_getD, List.getElem?_eq_getElem h]
  rfl
theorem a_get {l : List Ins} {k : Nat} (h : k < l.length) (h0 : 0 ≤ (l.getD k default).a) : l[k].a = (aAt l k : Int) := by
  unfold aAt
  rw [List.getD_eq_getElem?_getD, List.getElem?_eq_getElem h] at *
  simp at *
  omega
set_option maxRecDepth 200000 in
set_option maxHeartbeats 4000000 in
theorem marks_walk (l : List Ins) (A : Option Addr) (c : Nat) (w : World) (W : WF l) (hA : InsAt w A l) (hl : l.length ≤ 100000) :
    Calls Tryz.prog 57 #[.slice A l.length c] w fun e w' => e = .returned (.slice (some ⟨w.heap.size, 0, none⟩) l.length l.length) ∧ Row w' w.heap.size 4 (boolC (marks l)) ∧ Below w.heap.size w w' := by
  have hmk := make_bools l.length (by omega) w
  have HA := Lib.hid hA
  have HW := Lib.hid W
  have HO := Lib.hid hA.old
  clear hA W
  go_enter Tryz.func57, Tryz.ntmps57
  go_wp2_with fail
  go_loopw [5, 11] (fun z v wr => ∃ k : Nat, v = .int .i64 k ∧ k ≤ l.length ∧ Hid (Row wr w.heap.size 4 (boolC (marksTo l k))) ∧ Hid (InsAt wr A l) ∧ Hid (Below w.heap.size w wr)) (fun _ v _ => l.length - (intOf v).toNat)
  case atStart => exact ⟨0, rfl, Nat.zero_le _, by rw [marksTo_zero]; exact Row.made _ _ _, HA.out.below (below1 w _), below1 w _⟩
  case round =>
    clear HA hmk
    rename World => w2
    obtain ⟨k, rfl, hk, HR, HA, HB⟩ := hrel
    by_cases hlt : k < l.length
    · obtain ⟨b, off, rfl, hbl, hc⟩ := HA.out.at_ (by omega)
      obtain ⟨c0, c1, c2, c3, c4⟩ := hc k hlt
      have hi : (0 : Int) ≤ (k : Int) ∧ (k : Int) < (l.length : Int) := by omega
      have hsz := HB.out.size
      have hgl := HR.out.lt
      clear hc
      by_cases hj : jumps l[k].op
      · have hd : decide (jumps l[k].op) = true := decide_eq_true hj
        have hjj : jumps (opAt l k) := by rw [op_get hlt]; exact hj
        have h0 := HW.out.low k hlt hjj
        have ha := a_get hlt h0
        have hh := HW.out.high k hlt hjj
        rw [ha] at c1
        have hia : (0 : Int) ≤ (aAt l k : Int) ∧ (aAt l k : Int) < (l.length : Int) := by omega
        have HS : Hid ((boolC (marksTo l k)).set (aAt l k) (.bool true) = boolC (marksTo l (k + 1))) := Lib.hid (by rw [← boolC_set, marksTo_yes hjj])
        have HL : Hid ((boolC (marksTo l k)).length = l.length) := Lib.hid (by rw [boolC_length, marksTo_length])
        clear hj hjj h0 ha
        go_wp2_with (first
          | (go_at_call 88; refine (jumps_walk _ _).mono ?_; rintro en w3 ⟨rfl, rfl⟩)
          | (refine put_at (.tmp 21) _ 4 w.heap.size (aAt l k) 4 (boolC (marksTo l k)) [.bool true] _ _ rfl rfl rfl rfl rfl size4 (by simp [Value.oneCell']) (HR.out.alloc _) (by rw [HL.out]; simp; omega) ?_; intro w4 hr4 hb4 hf4))
        have r4 : Row w4 w.heap.size 4 (boolC (marksTo l (k + 1))) := by rw [← HS.out, ← set_take_drop _ _ _ (by rw [HL.out]; omega)]; exact hr4
        have hb := hb4 w.heap.size (Nat.le_refl _)
        have B4 : Below w.heap.size w w4 := (HB.out.alloc HB.out.size _).trans hb
        have A4 := (HA.out.below (below1 w2 _)).far (fun hp a ha => by have := HO.out hp a ha; omega) hb.size hf4
        go_roundw
        case rel => exact ⟨k + 1, by go_num, by omega, r4, A4, B4⟩
        case measure => simp [intOf]; omega
      · have hd : decide (jumps l[k].op) = false := decide_eq_false hj
        have hjj : ¬ jumps (opAt l k) := by rw [op_get hlt]; exact hj
        have HS : Hid (marksTo l k = marksTo l (k + 1)) := Lib.hid (marksTo_no hjj)
        clear hj hjj
        go_wp2_with (first
          | (go_at_call 88; refine (jumps_walk _ _).mono ?_; rintro en w3 ⟨rfl, rfl⟩))
        go_roundw
        case rel => exact ⟨k + 1, by go_num, by omega, by rw [← HS.out]; exact HR.out.alloc _, HA.out.below (below1 w2 _), HB.out.alloc HB.out.size _⟩
        case measure => simp [intOf]; omega
    · obtain rfl : k = l.length := by omega
      have hr := HR.out
      rw [marksTo_all] at hr
      replace hr := Lib.hid hr
      clear HR hlt hk
      go_wp2_with fail
      go_ret
      exact ⟨rfl, hr.out, HB.out⟩
end Go.Proofs.YtmecmlpoallpcaaGreatDoor

/- Rows of ints that a call itself makes: grown, written, shortened. No walk. (Turned from another seat's text.) -/
namespace Go.Proofs.YtmecmlpoallpcaaGreatDoor
set_option linter.unusedVariables false
open Go.RowKit Go.Proofs.PeepPlain

theorem own_same {w w' : World} {B e size n : Nat} {v : Value} {xs : List Value} (h : w.ownsRow B e size v n xs) (hk : ∀ g, v.ownBlock = some g → w'.heap[g]? = w.heap[g]?) : w'.ownsRow B e size v n xs := by
  refine ⟨h.1, ?_⟩
  rcases h.2 with hn | ⟨g, cap, cur, rfl, hb, hg, r⟩
  · exact .inl hn
  · exact .inr ⟨g, cap, cur, rfl, hb, (hk g rfl).trans hg, r⟩
theorem own_shape {w : World} {B : Nat} {e : TypeId} {size n : Nat} {v : Value} {xs : List Value} (h : w.ownsRow B e size v n xs) : ∃ A c, v = .slice A n c := by
  rcases h.2 with ⟨rfl, rfl⟩ | ⟨g, cap, cur, rfl, _⟩
  · exact ⟨none, 0, rfl⟩
  · exact ⟨_, cap, rfl⟩

/-- The ints of a slice. -/
def IntsAt (w : World) (A : Option Addr) (l : List Int) : Prop := Lies w A (l.map fun n => .int .i64 n)
theorem info3 : (Tryz.prog.info? 3).map (fun i => (i.zero, i.size, i.bytes)) = some (some (.int .i64 0), 1, 8) := by kernel_rfl
theorem size3 : (Tryz.prog.info? 3).map (·.size) = some 1 := by kernel_rfl
/-- Ints as cells. -/
def intC (l : List Int) : List Value := l.map fun n => Value.int .i64 n
theorem intC_length (l : List Int) : (intC l).length = l.length := by simp [intC]
theorem intC_append (a b : List Int) : intC (a ++ b) = intC a ++ intC b := by simp [intC]
theorem intC_one (l : List Int) : ∀ u ∈ intC l, u.oneCell' = true := by simp [intC, Value.oneCell']
theorem intC_set (l : List Int) (k : Nat) (n : Int) : intC (l.set k n) = (intC l).set k (.int .i64 n) := by simp [intC, List.map_set]
/-- v, the call's own row, holds the ints l. -/
def OwnI (Bo : Nat) (w : World) (v : Value) (l : List Int) : Prop := w.ownsRow Bo 3 1 v l.length (intC l)
/-- Two values that do not lie in one block. -/
def Apart (u v : Value) : Prop := ∀ g, u.ownBlock = some g → v.ownBlock ≠ some g
theorem Apart.symm {u v : Value} (h : Apart u v) : Apart v u := fun g hg hu => h g hu hg

section
variable {Bo : Nat} {w w' : World} {v u : Value} {l : List Int}
theorem OwnI.nil (Bo : Nat) (w : World) : OwnI Bo w (.slice none 0 0) [] := World.ownsRow_nil _ _ _ _
theorem OwnI.alloc (h : OwnI Bo w v l) (o : Obj) : OwnI Bo (w.alloc o) v l := World.ownsRow.alloc h o
theorem OwnI.drewN (h : OwnI Bo w v l) (n : Nat) : OwnI Bo (w.drewN n) v l := h
theorem OwnI.lt (h : OwnI Bo w v l) {g : Nat} (hg : v.ownBlock = some g) : Bo ≤ g ∧ g < w.heap.size := World.ownsRow.lt h g hg
theorem OwnI.below (h : OwnI Bo w v l) {B : Nat} (hb : Below B w w') (hB : w.heap.size ≤ B) : OwnI Bo w' v l :=
  own_same h fun g hg => hb.block g (by have := h.lt hg; omega)
theorem OwnI.kept (h : OwnI Bo w v l) (hg : w.grownBy w' u.ownBlock) (ha : Apart v u) : OwnI Bo w' v l :=
  own_same h fun g hv => hg.block g (h.lt hv).2 (fun e => ha g hv e.symm)
theorem OwnI.shape (h : OwnI Bo w v l) : ∃ A c, v = .slice A l.length c := own_shape h
theorem OwnI.low (h : OwnI Bo w v l) {B : Nat} (hB : B ≤ Bo) : OwnI B w v l := by
  refine ⟨h.1, ?_⟩
  rcases h.2 with hn | ⟨g, cap, cur, hv, hb, r⟩
  · exact .inl hn
  · exact .inr ⟨g, cap, cur, hv, Nat.le_trans hB hb, r⟩
theorem OwnI.ints {A : Option Addr} {n c : Nat} (h : OwnI Bo w (.slice A n c) l) : IntsAt w A l := fun hpos => by
  have hp : 0 < l.length := by simpa using hpos
  rcases h.2 with ⟨_, h0⟩ | ⟨g, cap, cur, hv, hb, hg, hnc, hcm, _⟩
  · omega
  · injection hv with h1 h2 h3
    subst h1 h2 h3
    refine ⟨g, 0, rfl, (Array.getElem?_eq_some_iff.1 hg).1, fun j u hu => ?_⟩
    have := World.ownsRow.cells h (g := g) rfl j u hu
    rw [Addr.add_lit] at this
    exact this
theorem OwnI.addr {A : Option Addr} {n c : Nat} (h : OwnI Bo w (.slice A n c) l) (hp : 0 < l.length) : ∃ g, A = some ⟨g, 0, none⟩ ∧ n = l.length ∧ n ≤ c ∧ c ≤ maxLen := by
  rcases h.2 with ⟨_, h0⟩ | ⟨g, cap, cur, hv, hb, hg, hnc, hcm, _⟩
  · omega
  · injection hv with h1 h2 h3
    subst h1 h2 h3
    exact ⟨g, rfl, rfl, hnc, hcm⟩
theorem OwnI.none_ {n c : Nat} (h : OwnI Bo w (.slice none n c) l) : l = [] ∧ n = 0 ∧ c = 0 := by
  rcases h.2 with ⟨hv, h0⟩ | ⟨g, cap, cur, hv, _⟩
  · injection hv with h1 h2 h3
    exact ⟨List.eq_nil_of_length_eq_zero h0, h2, h3⟩
  · injection hv with h1 _ _
    cases h1
end

theorem IntsAt.below {w w' : World} {A : Option Addr} {l : List Int} (h : IntsAt w A l) (hb : Below w.heap.size w w') : IntsAt w' A l := Lies.below h hb rfl
theorem IntsAt.low {w w' : World} {A : Option Addr} {l : List Int} {B : Nat} (h : IntsAt w A l) (hA : ∀ a, A = some a → a.block < B) (hb : Below B w w') : IntsAt w' A l := fun hp => by
  obtain ⟨b, off, e, hlt, hc⟩ := h hp
  have := hA _ e
  exact ⟨b, off, e, Nat.lt_of_lt_of_le hlt hb.size, fun j u hu => (hb.cell (p := ⟨b, off + j, none⟩) this).trans (hc j u hu)⟩
theorem IntsAt.at_ {w : World} {A : Option Addr} {l : List Int} (h : IntsAt w A l) (hp : 0 < l.length) : ∃ b off, A = some ⟨b, off, none⟩ ∧ b < w.heap.size ∧ ∀ (j : Nat) (hj : j < l.length), w.cell? ⟨b, off + j, none⟩ = some (.int .i64 l[j]) := by
  obtain ⟨b, off, e, hlt, hc⟩ := h (by simpa using hp)
  exact ⟨b, off, e, hlt, fun j hj => hc j _ (by simp [hj])⟩

/-- append(nil, p ...). -/
theorem copy_i {ops : Array Oper} {rest : List Oper} {o : Oper} {a : Act} {Q : Exit → Act → World → Prop} (s x : Operand) (A : Option Addr) (c : Nat) (l : List Int) (w : World)
    (hgd : o.guard = none) (ho : o.op = .call { callee := .builtin .append, args := #[s, x], argTypes := #[44, 44] })
    (hs : a.eval s = .slice none 0 0) (hx : a.eval x = .slice A l.length c) (hn : A = none → c = 0) (hA : IntsAt w A l) (hlim : l.length ≤ 2000000)
    (h : ∀ B cp w', OwnI w.heap.size w' (.slice B l.length cp) l → Below w.heap.size w w' → wpList Tryz.prog ops Q rest (a.put o.dst (.slice B l.length cp)) w') : wpList Tryz.prog ops Q (o :: rest) a w := by
  obtain ⟨i3, hi, hz, hs3, hy⟩ := info_parts info3
  cases A with
  | none =>
    have hl0 : l = [] := by
      cases l with
      | nil => rfl
      | cons x r => obtain ⟨b, off, e, _⟩ := hA.at_ (by simp); cases e
    subst hl0
    obtain rfl := hn rfl
    refine wpList_plain hgd fun _ hK => ?_
    have hr := run_append_owned_none (P := Tryz.prog) w w.heap.size 44 o.type 3 i3 1 Tryz.underlying44 hi (.slice none 0 0) 0 [] (World.ownsRow_nil _ _ _ _)
    unfold Oper.wp execOp
    simp only [List.length_nil] at hx
    simp only [ho, resolve, invoke, builtin, Sem.run_bind, Sem.run_pure, Result.andThen_ok, List.map_toArray, List.map_cons, List.map_nil, hs, hx, hr]
    exact hK _ _ (h none 0 w (OwnI.nil _ _) (Below.refl _ _))
  | some ad =>
    refine wpList_append_own w hgd s x 44 ho w.heap.size 3 i3 (.int .i64 0) 1 8 Tryz.underlying44 hi hz hs3 hy rfl (by decide) (.slice none 0 0) 0 [] hs (World.ownsRow_nil _ _ _ _) ad l.length c (intC l) hx (by rw [intC_length]; omega) ?_ (intC_one l) (by simp only [maxLen]; omega) (by omega) (Nat.le_refl _) ?_
    · intro j u hu
      have hj : j < l.length := by
        have := (List.getElem?_eq_some_iff.1 hu).1
        rwa [intC_length] at this
      have hq := hA.at_ (Nat.lt_of_le_of_lt (Nat.zero_le j) hj)
      obtain ⟨b, off, e, _, hc⟩ := hq
      have e2 : ad = ⟨b, off, none⟩ := Option.some.inj e
      rw [e2, Addr.add_lit, hc j hj]
      have : (intC l)[j]? = some (.int .i64 l[j]) := by simp [intC, hj]
      rw [← hu, this]
    · intro v' w' hown hg _
      rw [Nat.zero_add, List.nil_append] at hown
      have ho2 : OwnI w.heap.size w' v' l := hown
      obtain ⟨B, cp, rfl⟩ := ho2.shape
      exact h B cp w' ho2 ((Below.refl _ _).grown hg (Nat.le_refl _) (fun k hk => by simp [Value.ownBlock] at hk))

/-- append(x, n), x the call's own. -/
theorem put_i {ops : Array Oper} {rest : List Oper} {o : Oper} {a : Act} {Q : Exit → Act → World → Prop} (s x : Operand) (Bo : Nat) (v : Value) (l : List Int) (n : Int) (w : World) (cs : Array Value)
    (hgd : o.guard = none) (ho : o.op = .call { callee := .builtin .append, args := #[s, x], argTypes := #[44, 44] })
    (hs : a.eval s = v) (hown : OwnI Bo w v l) (hcs : cs = #[.int .i64 n]) (hx : a.eval x = .slice (some ⟨w.heap.size, 0, none⟩) 1 1)
    (hlim : l.length ≤ 2000000) (hbase : Bo ≤ w.heap.size)
    (h : ∀ v' w', OwnI Bo w' v' (l ++ [n]) → Below Bo w w' → (∀ u m B, OwnI B w u m → Apart u v → OwnI B w' u m ∧ Apart u v') → wpList Tryz.prog ops Q rest (a.put o.dst v') w') : wpList Tryz.prog ops Q (o :: rest) a (w.alloc (.cells cs 3)) := by
  subst hcs
  obtain ⟨i3, hi, hz, hs3, hy⟩ := info_parts info3
  refine wpList_append_lies (w.alloc (.cells #[.int .i64 n] 3)) hgd s x 44 ho Bo 3 i3 (.int .i64 0) 1 8 Tryz.underlying44 hi hz hs3 hy rfl (by decide) v l.length (intC l) hs (World.ownsRow.alloc hown _) ⟨w.heap.size, 0, none⟩ 1 1 [.int .i64 n] hx (by simp) ?_ (by simp [Value.oneCell']) (by omega) (by simp only [maxLen]; omega) (by omega) (by simp; omega) _ rfl ?_
  · intro j u hu
    have := (Row.made w 3 [.int .i64 n]).cell j
    rw [Addr.add_lit, Nat.zero_add, this]
    exact hu
  · intro g cap w1 ho1 hg1 hat hlt
    refine h _ w1 ?_ ?_ ?_
    · show World.ownsRow _ _ _ _ _ _ _
      rw [List.length_append, intC_append]
      exact ho1
    · exact ((Below.refl Bo w).alloc hbase _).grown hg1 (by simp; omega) (fun k hk => (hown.lt hk).1)
    · intro u m B hu ha
      refine ⟨(hu.alloc _).kept hg1 ha, fun k hk e => ?_⟩
      have hkl := (hu.lt hk).2
      simp only [Value.ownBlock, Option.some.injEq] at e
      subst e
      rcases hat with hat | hat
      · exact ha _ hk hat
      · rw [hat] at hkl; simp at hkl; omega

/-- x[k] = n, x the call's own. -/
theorem OwnI.stored {Bo : Nat} {w : World} {g c : Nat} {l : List Int} {len : Nat} (h : OwnI Bo w (.slice (some ⟨g, 0, none⟩) len c) l) (k : Nat) (n : Int) :
    OwnI Bo (w.setCell ⟨g, k, none⟩ (.int .i64 n)) (.slice (some ⟨g, 0, none⟩) len c) (l.set k n) ∧ (Below Bo w (w.setCell ⟨g, k, none⟩ (.int .i64 n))) ∧ (∀ u m B, OwnI B w u m → Apart u (.slice (some ⟨g, 0, none⟩) len c) → OwnI B (w.setCell ⟨g, k, none⟩ (.int .i64 n)) u m) := by
  have hlen : len = l.length := by
    obtain ⟨A, cc, e⟩ := h.shape
    injection e
  subst hlen
  obtain ⟨h1, h2⟩ := World.ownsRow.stored h k (.int .i64 n)
  refine ⟨?_, ?_, fun u m B hu ha => OwnI.kept (u := .slice (some ⟨g, 0, none⟩) l.length c) hu h2 ha⟩
  · show World.ownsRow _ _ _ _ _ _ _
    rw [List.length_set, intC_set]
    exact h1
  · exact Below.setCell (p := ⟨g, k, none⟩) (Below.refl _ _) (show Bo ≤ g from (h.lt (g := g) rfl).1) _
theorem OwnI.cell {Bo : Nat} {w : World} {g c len : Nat} {l : List Int} (h : OwnI Bo w (.slice (some ⟨g, 0, none⟩) len c) l) (k : Nat) (hk : k < l.length) : w.cell? ⟨g, k, none⟩ = some (.int .i64 l[k]) := by
  have := World.ownsRow.cells h (g := g) rfl k (.int .i64 l[k]) (by simp [intC, hk])
  rw [Addr.add_lit, Nat.zero_add] at this
  exact this
theorem OwnI.free {Bo : Nat} {w : World} {g c len : Nat} {l : List Int} (h : OwnI Bo w (.slice (some ⟨g, 0, none⟩) len c) l) (k : Nat) : w.frozen? ⟨g, k, none⟩ = false := by
  have hlen : len = l.length := by
    obtain ⟨A, cc, e⟩ := h.shape
    injection e
  subst hlen
  exact World.ownsRow.frozenAt h k

/-- l with its first k replaced. -/
def filled (n : Int) (k : Nat) (l : List Int) : List Int := List.replicate k n ++ l.drop k
theorem filled_zero (n : Int) (l : List Int) : filled n 0 l = l := by simp [filled]
theorem filled_length (n : Int) (k : Nat) (l : List Int) (h : k ≤ l.length) : (filled n k l).length = l.length := by simp [filled]; omega
theorem filled_all (n : Int) (l : List Int) : filled n l.length l = List.replicate l.length n := by simp [filled]
theorem filled_set (n : Int) (k : Nat) (l : List Int) (h : k < l.length) : (filled n k l).set k n = filled n (k + 1) l := by
  unfold filled
  rw [List.set_append_right _ _ (by simp), List.length_replicate, Nat.sub_self, List.drop_eq_getElem_cons h, List.set_cons_zero, List.replicate_succ']
  simp
theorem filled_get (n : Int) (k j : Nat) (l : List Int) (hk : k ≤ j) (h : j < l.length) : (filled n k l)[j]? = some l[j] := by
  unfold filled
  rw [List.getElem?_append_right (by simp; omega), List.length_replicate, List.getElem?_drop, show k + (j - k) = j by omega, List.getElem?_eq_getElem h]
theorem replicate_more (n : Int) (k : Nat) : List.replicate k n ++ [n] = List.replicate (k + 1) n := List.replicate_succ'.symm
/-- x[:len(x)-1], x the call's own. -/
theorem OwnI.shrink {Bo : Nat} {w : World} {g c : Nat} {l : List Int} {n : Int} {len : Nat} (h : OwnI Bo w (.slice (some ⟨g, 0, none⟩) len c) (l ++ [n])) : OwnI Bo w (.slice (some ⟨g, 0, none⟩) l.length c) l := by
  obtain ⟨h1, h2⟩ := h
  rw [List.length_append, intC_append] at *
  refine ⟨by rw [intC_length]; omega, ?_⟩
  rcases h2 with ⟨hv, h0⟩ | ⟨g', cap, cur, hv, hb, hg, hnc, hcm, hcs, ht⟩
  · injection hv with e _ _
    cases e
  · injection hv with e1 e2 e3
    subst e3
    have e4 : g = g' := by have := Option.some.inj e1; injection this
    subst e4
    refine .inr ⟨g, c, cur, rfl, hb, hg, by simp at hnc; omega, hcm, hcs, ?_⟩
    have := congrArg (List.take l.length) ht
    rw [List.take_take] at this
    simp only [List.length_singleton, Nat.mul_one] at this ⊢
    rw [Nat.min_eq_left (by omega)] at this
    rw [this, List.take_left' (intC_length l)]
end Go.Proofs.YtmecmlpoallpcaaGreatDoor
