/- What guiseref17.Calls keeps in memory. No walk. -/
import Derived.Test.YtcalmojhdpagoaaDoorShown
import Derived.Test.YtcalmojhdpagoaaDoorSmall
namespace Go.Proofs.YtcalmojhdpagoaaDoor
set_option linter.unusedVariables false
open Go.RowKit

def Cl.cells (c : Cl) : List Value := [.int .i64 c.d, .string c.s, .int .i64 c.p, .bool c.en]
def flatC (l : List Cl) : List Value := l.flatMap Cl.cells
theorem flatC_length (l : List Cl) : (flatC l).length = l.length * 4 := by
  induction l with
  | nil => rfl
  | cons e l ih => simp only [flatC, List.flatMap_cons, List.length_append] at *; rw [ih]; simp [Cl.cells]; omega
theorem flatC_append (l m : List Cl) : flatC (l ++ m) = flatC l ++ flatC m := by simp [flatC]
theorem flatC_at (l : List Cl) (i j : Nat) (r : Cl) (h : l[i]? = some r) (hj : j < 4) : (flatC l)[i * 4 + j]? = r.cells[j]? := by
  induction l generalizing i with
  | nil => simp at h
  | cons e l ih =>
    have e4 : e.cells.length = 4 := rfl
    cases i with
    | zero =>
      simp at h; subst h
      simp only [flatC, List.flatMap_cons]
      rw [List.getElem?_append_left (by omega)]
      congr 1
      omega
    | succ i =>
      have := ih i (by simpa using h)
      simp only [flatC, List.flatMap_cons] at *
      rw [List.getElem?_append_right (by omega), show (i + 1) * 4 + j - e.cells.length = i * 4 + j by omega]
      exact this
theorem flatC_set (l : List Cl) (i j : Nat) (v : Value) (f : Cl → Cl) (hj : j < 4) (hf : ∀ r, (f r).cells = r.cells.set j v) (hi : i < l.length) : (flatC l).set (i * 4 + j) v = flatC (l.modify i f) := by
  induction l generalizing i with
  | nil => simp at hi
  | cons e l ih =>
    have e4 : e.cells.length = 4 := rfl
    cases i with
    | zero =>
      simp only [flatC, List.flatMap_cons, List.modify_zero_cons]
      rw [List.set_append_left _ _ (by omega), hf]
      congr 2
      omega
    | succ i =>
      have := ih i (by simpa using hi)
      simp only [flatC, List.flatMap_cons, List.modify_succ_cons] at *
      rw [List.set_append_right _ _ (by omega), show (i + 1) * 4 + j - e.cells.length = i * 4 + j by omega, this]

theorem own_cl {w : World} {B n n' c g : Nat} {l : List Cl} (h : w.ownsRow B 50 4 (.slice (some ⟨g, 0, none⟩) n c) n' (flatC l)) {i j : Nat} {r : Cl} (hi : l[i]? = some r) (hj : j < 4) {u : Value} (hu : r.cells[j]? = some u) : w.cell? ⟨g, i * 4 + j, none⟩ = some u := by
  have := h.cells (g := g) rfl (i * 4 + j) u (by rw [flatC_at l i j r hi hj]; exact hu)
  rw [Addr.add_lit, Nat.zero_add] at this
  exact this

theorem info50 : (Tryd.prog.info? 50).map (fun i => (i.zero, i.size, i.bytes)) = some (some (.agg #[.int .i64 0, .string ⟨#[]⟩, .int .i64 0, .bool false]), 4, 40) := by kernel_rfl
@[go_sem] theorem build50 (d p : Int) (s : ByteArray) (w : World) : (Instr.build 50 #[(0, .int .i64 d), (1, .string s), (2, .int .i64 p)]).run Tryd.prog w = .ok (.agg #[.int .i64 d, .string s, .int .i64 p, .bool false]) w := run_build w 50 _ _ (by kernel_rfl)

/-- append(s, one fresh element), s the call's own. -/
theorem put_gen (t e : TypeId) (i : TypeInfo) (z : Value) (size bytes : Nat) (ht : Tryd.prog.underlying t = some (.slice e)) (hi : Tryd.prog.info? e = some i) (hz : i.zero = some z) (hsize : i.size = size) (hby : i.bytes = bytes) (hzs : z.cells.size = size) (hsz : 0 < size)
    {ops : Array Oper} {rest : List Oper} {o : Oper} {a : Act} {Q : Exit → Act → World → Prop} (s x : Operand) (Bo n : Nat) (v : Value) (xs news : List Value) (w : World)
    (hgd : o.guard = none) (ho : o.op = .call { callee := .builtin .append, args := #[s, x], argTypes := #[t, t] })
    (hs : a.eval s = v) (hown : w.ownsRow Bo e size v n xs) (hx : a.eval x = .slice (some ⟨w.heap.size, 0, none⟩) 1 1)
    (hl : news.length = 1 * size) (h1 : ∀ u ∈ news, u.oneCell' = true) (hlim : (n + 1) * bytes ≤ 140737488355328) (hlim2 : n + 1 ≤ 9223372036854775807) (hbase : Bo ≤ w.heap.size)
    (h : ∀ v' w', w'.ownsRow Bo e size v' (n + 1) (xs ++ news) → KeptX [e] Bo w w' → wpList Tryd.prog ops Q rest (a.put o.dst v') w') : wpList Tryd.prog ops Q (o :: rest) a (w.alloc (.cells news.toArray e)) := by
  refine wpList_append_own (w.alloc (.cells news.toArray e)) hgd s x t ho Bo e i z size bytes ht hi hz hsize hby hzs hsz v n xs hs (hown.alloc _) ⟨w.heap.size, 0, none⟩ 1 1 news hx hl ?_ h1 (by simp only [maxLen]; omega) hlim (by simp; omega) ?_
  · intro j u hu
    have := (Row.made w e news).cell j
    rw [Addr.add_lit, Nat.zero_add, this]
    exact hu
  · intro v' w' hown' hg _
    exact h v' w' hown' (((KeptX.refl _ _ _).alloc hbase _).grown (hown.alloc _) (by simp) hg (Nat.le_refl _) (by simp; omega))

theorem put_nat {ops : Array Oper} {rest : List Oper} {o : Oper} {a : Act} {Q : Exit → Act → World → Prop} (s x : Operand) (Bo : Nat) (v : Value) (l : List Nat) (k : Nat) (w : World)
    (hgd : o.guard = none) (ho : o.op = .call { callee := .builtin .append, args := #[s, x], argTypes := #[27, 27] })
    (hs : a.eval s = v) (hown : w.ownsRow Bo 3 1 v l.length (nats l)) (hx : a.eval x = .slice (some ⟨w.heap.size, 0, none⟩) 1 1) (hlim : l.length ≤ 200000) (hbase : Bo ≤ w.heap.size)
    (h : ∀ v' w', w'.ownsRow Bo 3 1 v' (l ++ [k]).length (nats (l ++ [k])) → KeptX [3] Bo w w' → wpList Tryd.prog ops Q rest (a.put o.dst v') w') : wpList Tryd.prog ops Q (o :: rest) a (w.alloc (.cells #[.int .i64 k] 3)) := by
  obtain ⟨i3, hi3, hz3, hs3, hy3⟩ := info_parts info3
  refine put_gen 27 3 i3 (.int .i64 0) 1 8 Tryd.underlying27 hi3 hz3 hs3 hy3 rfl (by decide) s x Bo l.length v (nats l) [.int .i64 k] w hgd ho hs hown hx rfl (by simp [Value.oneCell']) (by omega) (by omega) hbase ?_
  intro v' w' h1 h2
  refine h v' w' ?_ h2
  rw [nats_append, List.length_append]
  exact h1
theorem put_cl {ops : Array Oper} {rest : List Oper} {o : Oper} {a : Act} {Q : Exit → Act → World → Prop} (s x : Operand) (Bo : Nat) (v : Value) (l : List Cl) (c : Cl) (w : World)
    (hgd : o.guard = none) (ho : o.op = .call { callee := .builtin .append, args := #[s, x], argTypes := #[48, 48] })
    (hs : a.eval s = v) (hown : w.ownsRow Bo 50 4 v l.length (flatC l)) (hx : a.eval x = .slice (some ⟨w.heap.size, 0, none⟩) 1 1) (hlim : l.length ≤ 200000) (hbase : Bo ≤ w.heap.size)
    (h : ∀ v' w', w'.ownsRow Bo 50 4 v' (l ++ [c]).length (flatC (l ++ [c])) → KeptX [50] Bo w w' → wpList Tryd.prog ops Q rest (a.put o.dst v') w') : wpList Tryd.prog ops Q (o :: rest) a (w.alloc (.cells #[.int .i64 c.d, .string c.s, .int .i64 c.p, .bool c.en] 50)) := by
  obtain ⟨i50, hi50, hz50, hs50, hy50⟩ := info_parts info50
  refine put_gen 48 50 i50 _ 4 40 Tryd.underlying48 hi50 hz50 hs50 hy50 rfl (by decide) s x Bo l.length v (flatC l) c.cells w hgd ho hs hown hx rfl (by simp [Cl.cells, Value.oneCell']) (by omega) (by omega) hbase ?_
  intro v' w' h1 h2
  refine h v' w' ?_ h2
  rw [flatC_append, List.length_append]
  simpa [flatC] using h1

/-- What the list of calls and the open ones are, in memory. -/
def RS (Bo : Nat) (w : World) (a o : Value) (R : List Cl × List Nat) : Prop := w.ownsRow Bo 50 4 a R.1.length (flatC R.1) ∧ w.ownsRow Bo 3 1 o R.2.length (nats R.2)
theorem RS.drewN {Bo : Nat} {w : World} {a o : Value} {R : List Cl × List Nat} (h : RS Bo w a o R) (n : Nat) : RS Bo (w.drewN n) a o R := h

theorem RS.ended {Bo ga ca : Nat} {w : World} {Ao : Option Addr} {co : Nat} {cs : List Cl} {op : List Nat} (h : RS Bo w (.slice (some ⟨ga, 0, none⟩) cs.length ca) (.slice Ao op.length co) (cs, op)) {x k : Nat} (hx : x < cs.length) (hk : k < op.length) :
    RS Bo (w.setCell ⟨ga, x * 4 + 3, none⟩ (.bool true)) (.slice (some ⟨ga, 0, none⟩) cs.length ca) (.slice Ao k co) (cs.modify x fun c => { c with en := true }, op.take k) ∧ Below Bo w (w.setCell ⟨ga, x * 4 + 3, none⟩ (.bool true)) := by
  obtain ⟨h1, h2⟩ := h
  dsimp only at h1 h2
  have hb : Bo ≤ ga := (h1.lt ga rfl).1
  obtain ⟨hs1, hs2⟩ := World.ownsRow.stored h1 (x * 4 + 3) (.bool true)
  refine ⟨⟨?_, ?_⟩, (Below.refl _ _).setCell hb _⟩
  · dsimp only
    rw [List.length_modify, ← flatC_set cs x 3 (.bool true) (fun c => { c with en := true }) (by omega) (fun r => rfl) hx]
    exact hs1
  · dsimp only
    have hne := own_ne h2 h1 (by decide)
    have h3 := h2.kept hs2 hne
    obtain ⟨g, rfl, _⟩ := own_addr h2 (by omega)
    exact own_take h3 (by omega) (.inl (by simp))
end Go.Proofs.YtcalmojhdpagoaaDoor
