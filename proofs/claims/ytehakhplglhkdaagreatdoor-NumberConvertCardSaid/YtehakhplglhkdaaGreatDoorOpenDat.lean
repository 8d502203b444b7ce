/- A datum that came in: what the reading of an argument of type api.Datum gives. -/
import Derived.Test.YtehakhplglhkdaaGreatDoorRingPlain
import Derived.Deep.Slices
import Derived.OpenShut
import Derived.Carry
import Derived.Deep.DeepHandedRow
import Derived.ProofKit
namespace Go.Proofs.YtehakhplglhkdaaGreatDoor
open Go.ChangeShapes Go.WideShapes Go.ChangeAt Go.RowKit Go.Deep
set_option linter.unusedVariables false

theorem cells3 : Tryz.prog.cellsOf 3 = 1 := by kernel_rfl
theorem cells9 : Tryz.prog.cellsOf 9 = 1 := by kernel_rfl
theorem cellsU64 : Tryz.prog.cellsOf 22 = 1 := by kernel_rfl
theorem cells23 : Tryz.prog.cellsOf 23 = 1 := by kernel_rfl
theorem cells25 : Tryz.prog.cellsOf 25 = 5 := by kernel_rfl
theorem cells26 : Tryz.prog.cellsOf 26 = 1 := by kernel_rfl
theorem cells28 : Tryz.prog.cellsOf 28 = 11 := by kernel_rfl
theorem int_wf {n : Int} (h : (Lit.int .i64 n).wf = true) : I64 n := by
  have := bounds_i64 h
  exact this
theorem u64_wf {n : Int} (h : (Lit.int .u64 n).wf = true) : 0 ≤ n ∧ n < 18446744073709551616 := by
  simp [Lit.wf] at h
  have h1 : IntKind.u64.min = 0 := by decide
  have h2 : IntKind.u64.max = 18446744073709551615 := by decide
  omega

/-- The ints of a slice. -/
def IntsAt (w : World) (A : Option Addr) (l : List Int) : Prop := Lies w A (l.map fun n => .int .i64 n)

theorem bulk_one {H : Type} (d : DataW H) : 1 ≤ Rows.uptoBulk d := by
  cases d with
  | lit l => cases l <;> simp [Rows.uptoBulk]
  | nil => simp [Rows.uptoBulk]
  | ptr d => simp [Rows.uptoBulk]
  | slice elems spare => simp [Rows.uptoBulk]
  | agg parts => simp [Rows.uptoBulk]
  | iface t d => simp [Rows.uptoBulk]
  | map entries => simp [Rows.uptoBulk]
  | held h => simp [Rows.uptoBulk]
theorem bulk_length {H : Type} (l : List (DataW H)) : l.length ≤ Rows.uptoBulkAll l := by
  induction l with
  | nil => simp [Rows.uptoBulkAll]
  | cons x r ih => have := bulk_one x; simp only [Rows.uptoBulkAll, List.length_cons]; omega

theorem slice_shape {H : Type} {enc : TypeId × Value → H} {w : World} {fuel : Nat} {t e : TypeId} {cs : List Value} {x : DataW H × List MemPlace} (ht : Tryz.prog.underlying t = some (.slice e)) (h : DataW.trod enc Tryz.prog w 0 (fun _ => true) true fuel t cs = some x) :
    ∃ a len cap, cs = [.slice a len cap] ∧ len ≤ Rows.uptoBulk x.1 ∧ len ≤ cap ∧ cap ≤ maxLen ∧ (a = none → cap = 0) := by
  rcases open_slice ht h with ⟨rfl, rfl⟩ | ⟨a, len, cap, m, k, D, Pl, rfl, _, hl, hm, hmm, rfl, hel⟩
  · exact ⟨none, 0, 0, rfl, Nat.zero_le _, Nat.le_refl _, Nat.zero_le _, fun _ => rfl⟩
  · refine ⟨some a, len, cap, rfl, ?_, hl, hm, fun h => by cases h⟩
    have := bulk_length ((List.range len).map D)
    simp only [List.length_map, List.length_range] at this
    simp only [Rows.uptoBulk]
    omega
theorem ints_at {H : Type} {enc : TypeId × Value → H} {w : World} {fuel : Nat} {A : Option Addr} {len cap : Nat} {x : DataW H × List MemPlace} (h : DataW.trod enc Tryz.prog w 0 (fun _ => true) true fuel 23 [.slice A len cap] = some x) :
    ∃ l : List Int, l.length = len ∧ IntsAt w A l := by
  rcases open_slice1 Tryz.underlying23 cells3 h with ⟨hcs, _⟩ | ⟨a, len', cap', m, k, V, D, Pl, hcs, _, hl, hm, hmm, _, hel⟩
  · simp at hcs
    obtain ⟨rfl, rfl, rfl⟩ := hcs
    exact ⟨[], rfl, fun h => by simp at h⟩
  · simp at hcs
    obtain ⟨rfl, rfl, rfl⟩ := hcs
    have each : ∀ i, i < len → ∃ n : Int, w.cell? (a.add i) = some (.int .i64 n) := by
      intro i hi
      obtain ⟨h1, h2⟩ := hel i (by rw [hmm]; split <;> omega)
      obtain ⟨n, hn, _⟩ := DataW.trod_int Tryz.underlying3 h2
      simp at hn
      exact ⟨n, by rw [h1, hn]⟩
    obtain ⟨f, hF⟩ := choose_lt (α := Int) each
    refine ⟨(List.range len).map f, by simp, fun hpos => ?_⟩
    have hlen : 0 < len := by simpa using hpos
    have h0 := hF 0 hlen
    obtain ⟨b, off, spot⟩ := a
    have hspot : spot = none := by
      have : w.cell? (⟨b, off, spot⟩ : Addr) = some (.int .i64 (f 0)) := by simpa [Addr.add] using h0
      exact World.cell?_spot this
    subst hspot
    refine ⟨b, off, rfl, ?_, fun j u hu => ?_⟩
    · apply Nat.lt_of_not_le
      intro hge
      have hn : w.heap[b]? = none := Array.getElem?_eq_none hge
      simp [World.cell?, Addr.add, hn] at h0
    · simp only [List.getElem?_map, Option.map_eq_some_iff] at hu
      obtain ⟨n, ⟨m', hm', rfl⟩, rfl⟩ := hu
      obtain ⟨hj, hj2⟩ := List.getElem?_eq_some_iff.1 hm'
      simp at hj hj2
      subst hj2
      have hc := hF j hj
      by_cases h0 : j = 0
      · subst h0; simpa [Addr.add] using hc
      · simpa [Addr.add, h0] using hc

set_option maxRecDepth 200000 in
theorem open_dat {H : Type} {enc : TypeId × Value → H} {w : World} {v : Value} {d : DataW H} {ps : List MemPlace} (h : DataW.Trod enc Tryz.prog w 0 (fun _ => true) true 28 v d ps) {base : Nat}
    (hval : Value.okWide Tryz.prog w .any base 28 v) :
    ∃ (D : Dat) (l : List Int), v = D.val ∧ I64 D.k ∧ I64 D.n ∧ (0 ≤ D.f ∧ D.f < 18446744073709551616) ∧ D.t.size + D.s.size + D.pn ≤ Rows.uptoBulk d ∧ l.length = D.pn ∧ IntsAt w D.pa l ∧ D.pn ≤ D.pc ∧ D.pc ≤ maxLen ∧ (D.pa = none → D.pc = 0) := by
  obtain ⟨cs, rfl, hcs⟩ := okWide_struct Tryz.underlying28 hval
  obtain ⟨fuel, hf⟩ := h
  obtain ⟨xs, n, rfl, hx, hl, hlen, hfl⟩ := DataW.trod_struct Tryz.underlying28 hf
  have hd : d = .agg (xs.map (·.1)) := ((Prod.mk.injEq ..).mp hx).1
  subst hd
  obtain ⟨l, rfl⟩ : ∃ l : List Value, cs = l.toArray := ⟨cs.toList, by simp⟩
  have hl' : l.length = 11 := by simpa [cells28] using hcs
  simp only [Value.cells, List.toList_toArray] at hfl
  clear hx hf hl hcs hval
  match l, hl', xs, hlen with
  | [a0, a1, a2, a3, a4, a5, a6, a7, a8, a9, a10], _, [x0, x1, x2, x3, x4, x5, x6], _ =>
    have f0 := hfl 0 _ rfl
    have f1 := hfl 1 _ rfl
    have f2 := hfl 2 _ rfl
    have f3 := hfl 3 _ rfl
    have f4 := hfl 4 _ rfl
    have f5 := hfl 5 _ rfl
    have f6 := hfl 6 _ rfl
    clear hfl
    simp [cells3, cells9, cellsU64, cells25, cells26] at f0 f1 f2 f3 f4 f5 f6
    obtain ⟨k0, h0, _, w0⟩ := DataW.trod_int Tryz.underlying3 f0
    obtain ⟨s1, h1, e1, _⟩ := DataW.trod_string Tryz.underlying9 f1
    obtain ⟨k2, h2, _, w2⟩ := DataW.trod_int Tryz.underlying3 f2
    obtain ⟨k3, h3, _, w3⟩ := DataW.trod_int Tryz.underlying22 f3
    obtain ⟨s4, h4, e4, _⟩ := DataW.trod_string Tryz.underlying9 f4
    obtain ⟨a, len, cap, h6, _⟩ := slice_shape Tryz.underlying26 f6
    obtain ⟨ys, m, _, hy, _, hylen, hyf⟩ := DataW.trod_struct Tryz.underlying25 f5
    match ys, hylen with
    | [y0, y1, y2, y3, y4], _ =>
      have g0 := hyf 0 _ rfl
      have g1 := hyf 1 _ rfl
      have g2 := hyf 2 _ rfl
      have g3 := hyf 3 _ rfl
      have g4 := hyf 4 _ rfl
      clear hyf
      simp [cells3, cells23] at g0 g1 g2 g3 g4
      obtain ⟨b0, i0, _, _⟩ := DataW.trod_int Tryz.underlying3 g0
      obtain ⟨b1, i1, _, _⟩ := DataW.trod_int Tryz.underlying3 g1
      obtain ⟨b2, i2, _, _⟩ := DataW.trod_int Tryz.underlying3 g2
      obtain ⟨b3, i3, _, _⟩ := DataW.trod_int Tryz.underlying3 g3
      obtain ⟨pa, pn, pc, i4, hb4, hpn, hpm, hnil⟩ := slice_shape Tryz.underlying23 g4
      simp at h0 h1 h2 h3 h4 h6 i0 i1 i2 i3 i4
      subst h0 h1 h2 h3 h4 h6 i0 i1 i2 i3 i4
      obtain ⟨l, hl, hA⟩ := ints_at g4
      refine ⟨⟨k0, s1, k2, k3, s4, b0, b1, b2, b3, pa, pn, pc, a, len, cap⟩, l, rfl, int_wf w0, int_wf w2, u64_wf w3, ?_, hl, hA, hpn, hpm, hnil⟩
      subst e1 e4 hy
      simp only [List.map_cons, List.map_nil, Rows.uptoBulk, Rows.uptoBulkAll]
      have q1 : s1.data.toList.length = s1.size := Array.length_toList
      have q4 : s4.data.toList.length = s4.size := Array.length_toList
      omega
end Go.Proofs.YtehakhplglhkdaaGreatDoor
