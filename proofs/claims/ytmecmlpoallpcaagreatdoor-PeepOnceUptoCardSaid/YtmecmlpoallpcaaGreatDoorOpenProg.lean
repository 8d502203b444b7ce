/- A program that came in: what the reading of an argument of type code.Program gives. -/
import Derived.Test.YtmecmlpoallpcaaGreatDoorM23
import Derived.Test.YtmecmlpoallpcaaGreatDoorRows
import Derived.Deep.Slices
import Derived.OpenShut
import Derived.Carry
import Derived.Deep.DeepHandedRow
import Derived.ProofKit
set_option linter.all false
namespace Go.Proofs.YtmecmlpoallpcaaGreatDoor
open Go.ChangeShapes Go.WideShapes Go.ChangeAt Go.RowKit Go.Deep Go.Proofs.PeepPlain
set_option linter.unusedVariables false

theorem flat_range_len (f : Nat → List Value) (K : Nat) : ∀ n, (∀ i, i < n → (f i).length = K) → ((List.range n).flatMap f).length = n * K
  | 0, _ => by simp
  | n + 1, h => by
    rw [List.range_succ, List.flatMap_append, List.length_append, flat_range_len f K n (fun i hi => h i (by omega))]
    simp [h n (by omega), Nat.succ_mul]
theorem flat_range_get (f : Nat → List Value) (K : Nat) : ∀ n, (∀ i, i < n → (f i).length = K) → ∀ i r, i < n → r < K → ((List.range n).flatMap f)[i * K + r]? = (f i)[r]?
  | 0, _, i, r, hi, _ => absurd hi (Nat.not_lt_zero _)
  | n + 1, h, i, r, hi, hr => by
    have hl := flat_range_len f K n (fun i hi => h i (by omega))
    rw [List.range_succ, List.flatMap_append]
    by_cases e : i < n
    · rw [List.getElem?_append_left (by
        rw [hl]
        have : (i + 1) * K ≤ n * K := Nat.mul_le_mul_right K e
        rw [Nat.succ_mul] at this
        omega)]
      exact flat_range_get f K n (fun i hi => h i (by omega)) i r e hr
    · obtain rfl : i = n := by omega
      rw [List.getElem?_append_right (by rw [hl]; omega), hl, Nat.add_sub_cancel_left]
      simp
/-- Blocks of K cells, one behind the other. -/
theorem lies_blocks {w : World} {a : Addr} {K n : Nat} (hK : 0 < K) (f : Nat → List Value) (h : ∀ i, i < n → w.cells? 0 (a.add (i * K)) K = some (f i)) : Lies w (some a) ((List.range n).flatMap f) := by
  have hl : ∀ i, i < n → (f i).length = K := fun i hi => (World.cells?_some (h i hi)).2.1
  have hc : ∀ i, i < n → ∀ r, r < K → w.cell? (a.add (i * K + r)) = (f i)[r]? := fun i hi r hr => by
    have := (World.cells?_some (h i hi)).2.2 r hr
    rwa [add_add] at this
  intro hpos
  rw [flat_range_len f K n hl] at hpos
  have hn : 0 < n := by
    rcases Nat.eq_zero_or_pos n with e | e
    · subst e; simp at hpos
    · exact e
  have c0 := hc 0 hn 0 hK
  obtain ⟨b, off, spot⟩ := a
  have hv : w.cell? ⟨b, off, spot⟩ = some ((f 0)[0]'(by rw [hl 0 hn]; exact hK)) := by
    have e : (⟨b, off, spot⟩ : Addr).add (0 * K + 0) = ⟨b, off, spot⟩ := by simp [Addr.add]
    rw [e] at c0
    rw [c0, List.getElem?_eq_getElem]
  have hspot : spot = none := World.cell?_spot hv
  subst hspot
  refine ⟨b, off, rfl, ?_, fun j u hu => ?_⟩
  · apply Nat.lt_of_not_le
    intro hge
    have hn : w.heap[b]? = none := Array.getElem?_eq_none hge
    simp [World.cell?, hn] at hv
  · have hj : j < n * K := by rw [← flat_range_len f K n hl]; exact (List.getElem?_eq_some_iff.1 hu).1
    have hq : j / K < n := Nat.div_lt_of_lt_mul (by rw [Nat.mul_comm]; exact hj)
    have hr := Nat.mod_lt j hK
    have h1 := hc (j / K) hq (j % K) hr
    have ej : j / K * K + j % K = j := by rw [Nat.mul_comm]; exact Nat.div_add_mod j K
    have e2 := flat_range_get f K n hl (j / K) (j % K) hq hr
    rw [ej] at h1 e2
    rw [add_plain] at h1
    rw [h1, ← e2]
    exact hu

theorem bulk_sum {H : Type} {α : Type} (m : α → Nat) : ∀ (l : List α) (D : Nat → DataW H), (∀ i, (hi : i < l.length) → m l[i] ≤ Rows.uptoBulk (D i)) → (l.map m).sum ≤ Rows.uptoBulkAll ((List.range l.length).map D)
  | [], _, _ => Nat.zero_le _
  | y :: l, D, h => by
    have h0 := h 0 (by simp)
    have ih := bulk_sum m l (fun i => D (i + 1)) (fun i hi => by
      have h2 := h (i + 1) (by simpa using hi)
      simp only [List.getElem_cons_succ] at h2
      exact h2)
    simp only [List.length_cons, List.range_succ_eq_map, List.map_cons, List.map_map, Rows.uptoBulkAll, List.sum_cons]
    simp only [List.getElem_cons_zero] at h0
    have e : (D ∘ Nat.succ) = fun i => D (i + 1) := rfl
    rw [e]
    omega
theorem sum_mem {α : Type} (m : α → Nat) {l : List α} {y : α} (h : y ∈ l) : m y ≤ (l.map m).sum := by
  induction l with
  | nil => cases h
  | cons x l ih =>
    simp only [List.map_cons, List.sum_cons]
    rcases List.mem_cons.1 h with rfl | h
    · omega
    · have := ih h; omega
theorem sum_length {α : Type} (m : α → Nat) (l : List α) (h : ∀ y ∈ l, 1 ≤ m y) : l.length ≤ (l.map m).sum := by
  induction l with
  | nil => simp
  | cons x l ih =>
    have := h x (by simp)
    have := ih (fun y hy => h y (by simp [hy]))
    simp only [List.map_cons, List.sum_cons, List.length_cons]
    omega

theorem map_flat {α : Type} (c : α → Value) (l : List α) : l.map c = l.flatMap (fun x => [c x]) := by
  induction l with
  | nil => rfl
  | cons x l ih => simp only [List.map_cons, List.flatMap_cons, ih, List.singleton_append]
section
variable {H : Type} {enc : TypeId × Value → H} {w : World}
/-- A slice: what each element gives, all give. -/
theorem slice_opens {α : Type} [Inhabited α] {t e K : Nat} (ht : Tryz.prog.underlying t = some (.slice e)) (hK : Tryz.prog.cellsOf e = K) (hK0 : 0 < K) (c : α → List Value) (m : α → Nat) (P : α → Prop)
    (hel : ∀ fuel cs x, DataW.trod enc Tryz.prog w 0 (fun _ => true) true fuel e cs = some x → ∃ y, cs = c y ∧ m y ≤ Rows.uptoBulk x.1 ∧ P y)
    {fuel : Nat} {cs : List Value} {x : DataW H × List MemPlace} (h : DataW.trod enc Tryz.prog w 0 (fun _ => true) true fuel t cs = some x) :
    ∃ (A : Option Addr) (l : List α) (cap : Nat), cs = [.slice A l.length cap] ∧ Lies w A (l.flatMap c) ∧ (l.map m).sum + 1 ≤ Rows.uptoBulk x.1 ∧ (∀ y ∈ l, P y) ∧ l.length ≤ cap ∧ cap ≤ maxLen ∧ (A = none → cap = 0) := by
  rcases open_slice ht h with ⟨rfl, rfl⟩ | ⟨a, len, cap, mm, k, D, Pl, rfl, _, hl, hm, hmm, rfl, hx⟩
  · exact ⟨none, [], 0, rfl, Lies.none_ _ _, by simp [Rows.uptoBulk], by simp, Nat.le_refl _, Nat.zero_le _, fun _ => rfl⟩
  · have each : ∀ i, i < len → ∃ y : α, w.cells? 0 (a.add (i * K)) K = some (c y) ∧ m y ≤ Rows.uptoBulk (D i) ∧ P y := by
      intro i hi
      obtain ⟨cs', h1, h2⟩ := hx i (by rw [hmm]; split <;> omega)
      rw [hK] at h1
      obtain ⟨y, rfl, h3, h4⟩ := hel _ _ _ h2
      exact ⟨y, h1, h3, h4⟩
    obtain ⟨f, hF⟩ := choose_lt each
    have elen : ((List.range len).map f).length = len := by simp
    refine ⟨some a, (List.range len).map f, cap, by rw [elen], ?_, ?_, ?_, by rw [elen]; exact hl, hm, fun h => by cases h⟩
    · rw [List.flatMap_map]
      exact lies_blocks hK0 (fun i => c (f i)) (fun i hi => (hF i hi).1)
    · have := bulk_sum m ((List.range len).map f) D (fun i hi => by simpa using (hF i (by simpa using hi)).2.1)
      rw [elen] at this
      simp only [Rows.uptoBulk]
      omega
    · intro y hy
      obtain ⟨i, hi, rfl⟩ := List.mem_map.1 hy
      exact (hF i (by simpa using hi)).2.2
theorem cells3 : Tryz.prog.cellsOf 3 = 1 := by kernel_rfl
theorem cells48 : Tryz.prog.cellsOf 48 = 1 := by kernel_rfl
theorem cells9 : Tryz.prog.cellsOf 9 = 1 := by kernel_rfl
theorem cells44 : Tryz.prog.cellsOf 44 = 1 := by kernel_rfl
theorem cells45 : Tryz.prog.cellsOf 45 = 1 := by kernel_rfl
theorem cells22 : Tryz.prog.cellsOf 22 = 1 := by kernel_rfl
theorem cells23 : Tryz.prog.cellsOf 23 = 1 := by kernel_rfl
theorem cells50 : Tryz.prog.cellsOf 50 = 5 := by kernel_rfl
theorem cells47 : Tryz.prog.cellsOf 47 = 6 := by kernel_rfl
def I64 (n : Int) : Prop := -9223372036854775808 ≤ n ∧ n ≤ 9223372036854775807
theorem int_wf {n : Int} (h : (Lit.int .i64 n).wf = true) : I64 n := by
  have := bounds_i64 h
  unfold I64
  omega
theorem elem_int (fuel : Nat) (cs : List Value) (x : DataW H × List MemPlace) (h : DataW.trod enc Tryz.prog w 0 (fun _ => true) true fuel 3 cs = some x) : ∃ y : Int, cs = [.int .i64 y] ∧ 1 ≤ Rows.uptoBulk x.1 ∧ I64 y := by
  obtain ⟨k, rfl, e, wf⟩ := DataW.trod_int Tryz.underlying3 h
  exact ⟨k, rfl, by simp [e, Rows.uptoBulk], int_wf wf⟩
theorem elem_string (fuel : Nat) (cs : List Value) (x : DataW H × List MemPlace) (h : DataW.trod enc Tryz.prog w 0 (fun _ => true) true fuel 9 cs = some x) : ∃ y : ByteArray, cs = [.string y] ∧ y.size + 1 ≤ Rows.uptoBulk x.1 ∧ True := by
  obtain ⟨s, rfl, e, _⟩ := DataW.trod_string Tryz.underlying9 h
  have q : s.data.toList.length = s.size := Array.length_toList
  exact ⟨s, rfl, by simp only [e, Rows.uptoBulk]; omega, trivial⟩
/-- The numbers of an instruction are ints. -/
def InsI (e : Ins) : Prop := I64 e.op ∧ I64 e.a ∧ I64 e.b ∧ I64 e.pos
set_option maxRecDepth 200000 in
theorem elem_ins (fuel : Nat) (cs : List Value) (x : DataW H × List MemPlace) (h : DataW.trod enc Tryz.prog w 0 (fun _ => true) true fuel 50 cs = some x) : ∃ y : Ins, cs = cellsI y ∧ y.text.size + 1 ≤ Rows.uptoBulk x.1 ∧ InsI y := by
  obtain ⟨xs, n, _, rfl, hl, hlen, hfl⟩ := DataW.trod_struct Tryz.underlying50 h
  rw [cells50] at hl
  clear h
  match cs, hl, xs, hlen with
  | [a0, a1, a2, a3, a4], _, [x0, x1, x2, x3, x4], _ =>
    have f0 := hfl 0 _ rfl
    have f1 := hfl 1 _ rfl
    have f2 := hfl 2 _ rfl
    have f3 := hfl 3 _ rfl
    have f4 := hfl 4 _ rfl
    clear hfl
    simp [cells3, cells9, cells48] at f0 f1 f2 f3 f4
    obtain ⟨k0, h0, _, w0⟩ := DataW.trod_int Tryz.underlying48 f0
    obtain ⟨k1, h1, _, w1⟩ := DataW.trod_int Tryz.underlying3 f1
    obtain ⟨k2, h2, _, w2⟩ := DataW.trod_int Tryz.underlying3 f2
    obtain ⟨s3, h3, e3, _⟩ := DataW.trod_string Tryz.underlying9 f3
    obtain ⟨k4, h4, _, w4⟩ := DataW.trod_int Tryz.underlying3 f4
    simp at h0 h1 h2 h3 h4
    subst h0 h1 h2 h3 h4
    refine ⟨⟨k0, k1, k2, s3, k4⟩, rfl, ?_, int_wf w0, int_wf w1, int_wf w2, int_wf w4⟩
    have q : s3.data.toList.length = s3.size := Array.length_toList
    simp only [List.map_cons, List.map_nil, Rows.uptoBulk, Rows.uptoBulkAll, e3]
    omega
/-- What a function weighs. -/
def weighs (f : Fn) : Nat := f.name.size + f.taken.length + (f.code.map fun x => x.text.size + 1).sum + 1
/-- What came in of a function. -/
structure FnIn (w : World) (f : Fn) : Prop where
  code : InsAt w f.CA f.code
  taken : Lies w f.TA (f.taken.map (Value.int .i64))
  ints : I64 f.params ∧ I64 f.slots ∧ I64 f.around
  each : ∀ x ∈ f.code, InsI x
  tints : ∀ t ∈ f.taken, I64 t
  codeCap : f.code.length ≤ f.cc ∧ f.cc ≤ maxLen ∧ (f.CA = none → f.cc = 0)
  takenCap : f.taken.length ≤ f.tc ∧ f.tc ≤ maxLen ∧ (f.TA = none → f.tc = 0)
set_option maxRecDepth 200000 in
theorem elem_fn (fuel : Nat) (cs : List Value) (x : DataW H × List MemPlace) (h : DataW.trod enc Tryz.prog w 0 (fun _ => true) true fuel 47 cs = some x) : ∃ y : Fn, cs = cellsFn y ∧ weighs y ≤ Rows.uptoBulk x.1 ∧ FnIn w y := by
  obtain ⟨xs, n, _, rfl, hl, hlen, hfl⟩ := DataW.trod_struct Tryz.underlying47 h
  rw [cells47] at hl
  clear h
  match cs, hl, xs, hlen with
  | [a0, a1, a2, a3, a4, a5], _, [x0, x1, x2, x3, x4, x5], _ =>
    have f0 := hfl 0 _ rfl
    have f1 := hfl 1 _ rfl
    have f2 := hfl 2 _ rfl
    have f3 := hfl 3 _ rfl
    have f4 := hfl 4 _ rfl
    have f5 := hfl 5 _ rfl
    clear hfl
    simp [cells3, cells9, cells44, cells45] at f0 f1 f2 f3 f4 f5
    obtain ⟨s0, h0, e0, _⟩ := DataW.trod_string Tryz.underlying9 f0
    obtain ⟨k1, h1, _, w1⟩ := DataW.trod_int Tryz.underlying3 f1
    obtain ⟨k2, h2, _, w2⟩ := DataW.trod_int Tryz.underlying3 f2
    obtain ⟨TA, tl, tc, h3, t1, t2, t3, t4⟩ := slice_opens Tryz.underlying44 cells3 (by decide) (fun n : Int => [Value.int .i64 n]) (fun _ => 1) I64 elem_int f3
    obtain ⟨k4, h4, _, w4⟩ := DataW.trod_int Tryz.underlying3 f4
    obtain ⟨CA, cl, cc, h5, c1, c2, c3, c4⟩ := slice_opens Tryz.underlying45 cells50 (by decide) cellsI (fun x => x.text.size + 1) InsI elem_ins f5
    simp at h0 h1 h2 h3 h4 h5
    subst h0 h1 h2 h3 h4 h5
    refine ⟨⟨s0, k1, k2, TA, tl, tc, k4, CA, cl, cc⟩, rfl, ?_, ⟨c1, ?_, ⟨int_wf w1, int_wf w2, int_wf w4⟩, c3, t3, c4, t4⟩⟩
    · have q : s0.data.toList.length = s0.size := Array.length_toList
      have ht := sum_length (fun _ : Int => 1) tl (fun _ _ => Nat.le_refl _)
      simp only [List.map_cons, List.map_nil, Rows.uptoBulk, Rows.uptoBulkAll, e0, weighs]
      omega
    · rw [map_flat]
      exact t1
theorem sumTo_weighs (fs : List Fn) : sumTo fs fs.length ≤ (fs.map weighs).sum := by
  unfold sumTo
  rw [List.take_length]
  induction fs with
  | nil => simp
  | cons f fs ih =>
    have := sum_length (fun x : Ins => x.text.size + 1) f.code (fun _ _ => by omega)
    have hw : f.code.length ≤ weighs f := by unfold weighs; omega
    simp only [List.map_cons, List.sum_cons]
    omega
theorem small_of {fs : List Fn} {gs : List ByteArray} {n : Nat} (h1 : (fs.map weighs).sum + (gs.map fun s => s.size + 1).sum ≤ n) (hn : n ≤ 2000000) : Small fs gs where
  nf := by have := sum_length weighs fs (fun f _ => by unfold weighs; omega); omega
  all := by have := sumTo_weighs fs; omega
  ng := by have := sum_length (fun s : ByteArray => s.size + 1) gs (fun _ _ => by omega); omega
  names := fun j => by
    by_cases h : j < gs.length
    · have := sum_mem (fun s : ByteArray => s.size + 1) (List.getElem_mem h)
      rw [List.getD_eq_getElem?_getD, List.getElem?_eq_getElem h]
      simp only [Option.getD_some]
      omega
    · rw [List.getD_eq_getElem?_getD, List.getElem?_eq_none (by omega)]
      exact Nat.zero_le _
  each := fun f hf => by
    have := sum_mem weighs hf
    have hw : f.name.size ≤ weighs f ∧ f.taken.length ≤ weighs f := by unfold weighs; omega
    omega
  text := fun f hf x hx => by
    have h2 := sum_mem weighs hf
    have h3 := sum_mem (fun x : Ins => x.text.size + 1) hx
    have h4 : (f.code.map fun x => x.text.size + 1).sum ≤ weighs f := by unfold weighs; omega
    have h5 : x.text.size + 1 ≤ (f.code.map fun x => x.text.size + 1).sum := h3
    omega
set_option maxRecDepth 200000 in
/-- A program that came in. -/
theorem open_prog {v : Value} {d : DataW H} {ps : List MemPlace} (h : DataW.Trod enc Tryz.prog w 0 (fun _ => true) true 25 v d ps) {base : Nat}
    (hval : Value.okWide Tryz.prog w .any base 25 v) (hb : Rows.uptoBulk d ≤ 2000000) :
    ∃ (fs : List Fn) (gs : List ByteArray) (A GA : Option Addr) (fc gc : Nat), v = .agg #[.slice A fs.length fc, .slice GA gs.length gc] ∧ FnsAt w A fs ∧ Lies w GA (gs.map Value.string) ∧ Small fs gs ∧ (∀ f ∈ fs, FnIn w f) ∧ (fs.length ≤ fc ∧ fc ≤ maxLen ∧ (A = none → fc = 0)) ∧ (gs.length ≤ gc ∧ gc ≤ maxLen ∧ (GA = none → gc = 0)) := by
  obtain ⟨cs, rfl, hcs⟩ := okWide_struct Tryz.underlying25 hval
  obtain ⟨fuel, hf⟩ := h
  obtain ⟨xs, n, _, hx, hl, hlen, hfl⟩ := DataW.trod_struct Tryz.underlying25 hf
  have hd : d = .agg (xs.map (·.1)) := ((Prod.mk.injEq ..).mp hx).1
  subst hd
  obtain ⟨l, rfl⟩ : ∃ l : List Value, cs = l.toArray := ⟨cs.toList, by simp⟩
  have c25 : Tryz.prog.cellsOf 25 = 2 := by kernel_rfl
  have hl' : l.length = 2 := by simpa [c25] using hcs
  simp only [Value.cells, List.toList_toArray] at hfl
  clear hx hf hl hcs hval
  match l, hl', xs, hlen with
  | [a0, a1], _, [x0, x1], _ =>
    have f0 := hfl 0 _ rfl
    have f1 := hfl 1 _ rfl
    clear hfl
    simp [cells22, cells23] at f0 f1
    obtain ⟨A, fs, fc, h0, a1, a2, a3, a4⟩ := slice_opens Tryz.underlying22 cells47 (by decide) cellsFn weighs (FnIn w) elem_fn f0
    obtain ⟨GA, gs, gc, h1, g1, g2, g3, g4⟩ := slice_opens Tryz.underlying23 cells9 (by decide) (fun s : ByteArray => [Value.string s]) (fun s => s.size + 1) (fun _ => True) elem_string f1
    simp at h0 h1
    subst h0 h1
    simp only [List.map_cons, List.map_nil, Rows.uptoBulk, Rows.uptoBulkAll] at hb
    refine ⟨fs, gs, A, GA, fc, gc, rfl, ⟨a1, fun f hf => (a3 f hf).code, fun f hf => (a3 f hf).taken⟩, ?_, small_of (n := 2000000) (by omega) (Nat.le_refl _), a3, a4, g4⟩
    rw [map_flat]
    exact g1
end
end Go.Proofs.YtmecmlpoallpcaaGreatDoor
