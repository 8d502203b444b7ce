/- A datum that is stored whole, and a datum that is handed back through a cell, told by rows. -/
import Derived.Test.YtehakhplglhkdaaGreatDoorBase
import Derived.Laws.Tables
import Derived.Laws.ResultCell
import Derived.Laws.CopyOwn
import Derived.Laws.AppendOwn
namespace Go.Proofs.YtehakhplglhkdaaGreatDoor
set_option linter.unusedVariables false
open Go.RowKit

theorem size28 : (Tryz.prog.info? 28).map (·.size) = some 11 := by kernel_rfl
theorem under28 : ∃ fs, Tryz.prog.underlying 28 = some (.struct fs) := ⟨_, Tryz.underlying28⟩
theorem setRow_far (w : World) (g k : Nat) (cs : Array Value) (h : k ≠ g) : (w.setRow g cs).heap[k]? = w.heap[k]? := by
  simp [World.setRow, Array.getElem?_modify, Ne.symm h]

/-- A datum's cells. -/
def Dat.cells (d : Dat) : List Value := [.int .i64 d.k, .string d.t, .int .i64 d.n, .int .u64 d.f, .string d.s, .int .i64 d.ro, .int .i64 d.rf, .int .i64 d.rl, .int .i64 d.rc, .slice d.pa d.pn d.pc, .slice d.ia d.iN d.ic]
theorem val_cells (d : Dat) : d.val = .agg d.cells.toArray := rfl

/-- *x = y, x a datum's block that is known whole. -/
theorem put_dat {ops : Array Oper} {rest : List Oper} {o : Oper} {a : Act} {Q : Exit → Act → World → Prop} (x y : Operand) (g : Nat) (old cs : List Value) (w : World)
    (hgd : o.guard = none) (ho : o.op = .store 28 x y) (hx : a.eval x = .pointer (some ⟨g, 0, none⟩)) (hy : a.eval y = .agg cs.toArray)
    (hr : Row w g 28 old) (hl : old.length = 11) (hc : cs.length = 11) (h1 : cs.all (·.oneCell') = true)
    (h : ∀ w', Row w' g 28 cs → (∀ B, B ≤ g → Below B w w') → (∀ k, k ≠ g → w'.heap[k]? = w.heap[k]?) → wpList Tryz.prog ops Q rest (a.put o.dst undef) w') : wpList Tryz.prog ops Q (o :: rest) a w :=
  wpList_store_row hgd 28 x y ho g cs.toArray hx hy 28 old.toArray hr (by rw [size28]; simp [hc]) (by simp [hl, hc]) (by simpa using h1)
    (h _ (hr.turn cs) (fun B hB => below_setRow (Below.refl _ _) hB _) (fun k hk => setRow_far w g k _ hk))

theorem load28 (w : World) (g : Nat) (cs : List Value) (hr : Row w g 28 cs) (hl : cs.length = 11) : (loadVar 28 ⟨g, 0, none⟩).run Tryz.prog w = .ok (.agg cs.toArray) w :=
  run_loadVar_row w g 28 28 cs.toArray (0, 0) _ hr Tryz.underlying28 rfl (by rw [size28]; simp [hl])
theorem ret_c {fn : Func} {p : Tmp} (h : fn.results = #[.cell p 28]) (tmps : Array Value) (w : World) (g : Nat) (cs : List Value) (hp : tmps.getD p undef = .pointer (some ⟨g, 0, none⟩)) (hr : Row w g 28 cs) (hl : cs.length = 11) :
    (results fn tmps).run Tryz.prog w = .ok (.agg cs.toArray) w :=
  results_cell_row h tmps w g 28 cs.toArray (0, 0) _ hp hr Tryz.underlying28 rfl (by rw [size28]; simp [hl])
theorem ret_ct {fn : Func} {p u : Tmp} (h : fn.results = #[.cell p 28, .tmp u]) (tmps : Array Value) (w : World) (g : Nat) (cs : List Value) (hp : tmps.getD p undef = .pointer (some ⟨g, 0, none⟩)) (hr : Row w g 28 cs) (hl : cs.length = 11) :
    (results fn tmps).run Tryz.prog w = .ok (.tuple #[.agg cs.toArray, tmps.getD u undef]) w := by
  rw [results_cell_tmp h, hp]
  simp [asAddr, Result.andThen, load28 w g cs hr hl]
theorem ret_ctt {fn : Func} {p u v : Tmp} (h : fn.results = #[.cell p 28, .tmp u, .tmp v]) (tmps : Array Value) (w : World) (g : Nat) (cs : List Value) (hp : tmps.getD p undef = .pointer (some ⟨g, 0, none⟩)) (hr : Row w g 28 cs) (hl : cs.length = 11) :
    (results fn tmps).run Tryz.prog w = .ok (.tuple #[.agg cs.toArray, tmps.getD u undef, tmps.getD v undef]) w := by
  have hp' : tmps[p]?.getD undef = .pointer (some ⟨g, 0, none⟩) := by simpa using hp
  simp [results, h, hp', asAddr, Result.andThen, load28 w g cs hr hl]
end Go.Proofs.YtehakhplglhkdaaGreatDoor
