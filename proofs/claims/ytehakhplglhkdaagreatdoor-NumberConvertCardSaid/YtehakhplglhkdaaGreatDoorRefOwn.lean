/- Rows of bytes that a call itself makes. No walk. -/
import Derived.Test.YtehakhplglhkdaaGreatDoorUnaryR
import Derived.Laws.BytesString
import Derived.Laws.IdiomStrings
import Derived.Lib.AppendStr
import Derived.Deep.AppendLies
import Derived.WalkSmall
import Derived.Laws.AppendOwn
namespace Go.Proofs.YtehakhplglhkdaaGreatDoor
set_option linter.unusedVariables false
open Go.RowKit

theorem below_of_drewN (B : Nat) (w : World) (n : Nat) : Below B w (w.drewN n) := below_drewN (Below.refl _ _) n
theorem own_same {w w' : World} {B e size n : Nat} {v : Value} {xs : List Value} (h : w.ownsRow B e size v n xs) (hk : ∀ g, v.ownBlock = some g → w'.heap[g]? = w.heap[g]?) : w'.ownsRow B e size v n xs := by
  refine ⟨h.1, ?_⟩
  rcases h.2 with hn | ⟨g, cap, cur, rfl, hb, hg, r⟩
  · exact .inl hn
  · exact .inr ⟨g, cap, cur, rfl, hb, (hk g rfl).trans hg, r⟩
theorem own_shape {w : World} {B : Nat} {e : TypeId} {size n : Nat} {v : Value} {xs : List Value} (h : w.ownsRow B e size v n xs) : ∃ A c, v = .slice A n c := by
  rcases h.2 with ⟨rfl, rfl⟩ | ⟨g, cap, cur, rfl, _⟩
  · exact ⟨none, 0, rfl⟩
  · exact ⟨_, cap, rfl⟩

theorem own_addr {w : World} {B e size n c : Nat} {A : Option Addr} {xs : List Value} (h : w.ownsRow B e size (.slice A n c) n xs) (hn : 0 < n) : ∃ g, A = some ⟨g, 0, none⟩ ∧ n ≤ c ∧ c ≤ maxLen := by
  rcases h.2 with ⟨hv, h0⟩ | ⟨g, cap, cur, hv, hb, hg, hnc, hcm, _⟩
  · omega
  · injection hv with h1 h2 h3
    subst h1 h3
    exact ⟨g, rfl, hnc, hcm⟩

/-- All below B0 stays, and the blocks whose elements are of another type than those of es. -/
structure KeptX (es : List TypeId) (B0 : Nat) (w w' : World) : Prop where
  below : Below B0 w w'
  other : ∀ (k : Nat) cs t fr, w.heap[k]? = some (.cells cs t fr) → t ∉ es → w'.heap[k]? = w.heap[k]?

section
variable {es : List TypeId} {B0 : Nat} {a b c w w' : World}
theorem KeptX.refl (es : List TypeId) (B0 : Nat) (w : World) : KeptX es B0 w w := ⟨Below.refl _ _, fun _ _ _ _ _ _ => rfl⟩
theorem KeptX.trans (h : KeptX es B0 a b) (k : KeptX es B0 b c) : KeptX es B0 a c :=
  ⟨h.below.trans k.below, fun i cs t fr hi ht => (k.other i cs t fr ((h.other i cs t fr hi ht).trans hi) ht).trans (h.other i cs t fr hi ht)⟩
theorem KeptX.alloc (h : KeptX es B0 a w) (hB : B0 ≤ w.heap.size) (o : Obj) : KeptX es B0 a (w.alloc o) :=
  h.trans ⟨(Below.refl _ _).alloc hB o, fun k cs t fr hk _ => Below.heap_alloc w o k (Array.getElem?_eq_some_iff.1 hk).1⟩
theorem KeptX.drew (h : KeptX es B0 a w) : KeptX es B0 a w.drew := h.trans ⟨(Below.refl _ _).drew, fun _ _ _ _ _ _ => rfl⟩
theorem KeptX.drewN (h : KeptX es B0 a w) (n : Nat) : KeptX es B0 a (w.drewN n) := h.trans ⟨below_of_drewN _ _ _, fun _ _ _ _ _ _ => rfl⟩
theorem KeptX.row (h : KeptX es B0 w w') {g : Nat} {t : TypeId} {cs : List Value} (hr : Row w g t cs) (ht : t ∉ es) : Row w' g t cs := (h.other g _ t _ hr ht).trans hr
theorem KeptX.own (h : KeptX es B0 w w') {B n size : Nat} {e : TypeId} {v : Value} {xs : List Value} (ho : w.ownsRow B e size v n xs) (he : e ∉ es) : w'.ownsRow B e size v n xs :=
  own_same ho fun g hg => by
    rcases ho.2 with ⟨rfl, _⟩ | ⟨g', cap, cur, rfl, _, hgg, _⟩
    · simp [Value.ownBlock] at hg
    · simp [Value.ownBlock] at hg
      subst hg
      exact h.other _ _ _ _ hgg he
theorem KeptX.size (h : KeptX es B0 w w') : w.heap.size ≤ w'.heap.size := h.below.size
/-- A row of one of the types is written, or moved. -/
theorem KeptX.grown (h : KeptX es B0 a w) {B n size : Nat} {e : TypeId} {v : Value} {xs : List Value} (hv : w.ownsRow B e size v n xs) (he : e ∈ es) (hg : w.grownBy w' v.ownBlock) (hB : B0 ≤ B) (hBw : B ≤ w.heap.size) : KeptX es B0 a w' :=
  h.trans ⟨(Below.refl _ _).grown hg (by omega) (fun k hk => by have := (hv.lt k hk).1; omega), fun k cs t fr hk ht => hg.block k (Array.getElem?_eq_some_iff.1 hk).1 (fun ek => by
    rcases hv.2 with ⟨rfl, _⟩ | ⟨g, cap, cur, rfl, _, hgg, _⟩
    · simp [Value.ownBlock] at ek
    · simp [Value.ownBlock] at ek
      subst ek
      rw [hk] at hgg
      injection hgg with hgg
      injection hgg with _ ht'
      subst ht'
      exact ht he)⟩
theorem KeptX.setCell (h : KeptX es B0 a w) {g i : Nat} {t : TypeId} {cs : List Value} (hr : Row w g t cs) (ht : t ∈ es) (hB : B0 ≤ g) (u : Value) : KeptX es B0 a (w.setCell ⟨g, i, none⟩ u) :=
  h.trans ⟨(Below.refl _ _).setCell hB u, fun k cs' t' fr hk ht' => heap_setCell_other w ⟨g, i, none⟩ k u (fun e => by
    subst e
    unfold Row at hr
    rw [hk] at hr
    injection hr with hr
    injection hr with _ e
    subst e
    exact ht' ht)⟩
theorem KeptX.more {ds : List TypeId} (h : KeptX es B0 a b) (hs : ∀ e ∈ es, e ∈ ds) : KeptX ds B0 a b := ⟨h.below, fun k cs t fr hk ht => h.other k cs t fr hk (fun hm => ht (hs _ hm))⟩
theorem KeptX.low {B1 : Nat} (h : KeptX es B0 a b) (hB : B1 ≤ B0) : KeptX es B1 a b := ⟨⟨h.below.os, h.below.tape, h.below.output, h.below.size, fun k hk => h.below.block k (by omega)⟩, h.other⟩
theorem KeptX.ofOthers {e : TypeId} (hb : Below B0 a b) (ho : Lib.OthersKept e none a b) : KeptX [e] B0 a b :=
  ⟨hb, fun k cs t fr hk ht => (ho k _ hk (by simp) (fun c fz he => by injection he with _ h2; exact ht (by simp [h2]))).trans hk.symm⟩
end
theorem info5 : (Tryz.prog.info? 5).map (fun i => (i.zero, i.size, i.bytes)) = some (some (.int .u8 0), 1, 1) := by kernel_rfl

/-- append(b, fresh bytes ...), b the call's own. -/
theorem put_fresh {ops : Array Oper} {rest : List Oper} {o : Oper} {a : Act} {Q : Exit → Act → World → Prop} (s x : Operand) (Bo n : Nat) (v : Value) (xs news : List Value) (w : World)
    (hgd : o.guard = none) (ho : o.op = .call { callee := .builtin .append, args := #[s, x], argTypes := #[107, 107] })
    (hs : a.eval s = v) (hown : w.ownsRow Bo 5 1 v n xs) (hx : a.eval x = .slice (some ⟨w.heap.size, 0, none⟩) news.length news.length)
    (h1 : ∀ u ∈ news, u.oneCell' = true) (hlim : n + news.length ≤ 140737488355328) (hbase : Bo ≤ w.heap.size)
    (h : ∀ v' w', w'.ownsRow Bo 5 1 v' (n + news.length) (xs ++ news) → KeptX [5] Bo w w' → wpList Tryz.prog ops Q rest (a.put o.dst v') w') : wpList Tryz.prog ops Q (o :: rest) a (w.alloc (.cells news.toArray 5)) := by
  obtain ⟨i5, hi5, hz5, hs5, hy5⟩ := info_parts info5
  refine wpList_append_own (w.alloc (.cells news.toArray 5)) hgd s x 107 ho Bo 5 i5 (.int .u8 0) 1 1 Tryz.underlying107 hi5 hz5 hs5 hy5 rfl (by decide) v n xs hs (hown.alloc _) ⟨w.heap.size, 0, none⟩ news.length news.length news hx (by omega) ?_ h1 (by simp only [maxLen]; omega) (by omega) (by simp; omega) ?_
  · intro j u hu
    have := (Row.made w 5 news).cell j
    rw [Addr.add_lit, Nat.zero_add, this]
    exact hu
  · intro v' w' hown' hg _
    exact h v' w' hown' (((KeptX.refl _ _ _).alloc hbase _).grown (hown.alloc _) (by simp) hg (Nat.le_refl _) (by simp; omega))

/-- string(b), b the call's own. -/
theorem conv_own {w : World} {B n : Nat} {v : Value} {l : List UInt8} (h : w.ownsRow B 5 1 v n (Lib.byteCells l)) : (convert 107 9 v).run Tryz.prog w = .ok (.string ⟨l.toArray⟩) w := by
  have hl : l.length = n := by have := h.1; simpa [Lib.byteCells] using this
  rcases h.2 with ⟨rfl, rfl⟩ | ⟨g, cap, cur, rfl, _, _⟩
  · obtain rfl : l = [] := List.eq_nil_of_length_eq_zero hl
    rw [run_convert_bytes_string w 107 9 5 none 0 0 Tryz.underlying107 Tryz.underlying5 Tryz.underlying9]
    rfl
  · subst hl
    exact run_convert_bytes_back w 107 9 5 _ cap l Tryz.underlying107 Tryz.underlying5 Tryz.underlying9 (fun j hj => h.cells (g := g) rfl j _ (by simp [Lib.byteCells, hj]))

theorem byteCells_append (a b : List UInt8) : Lib.byteCells (a ++ b) = Lib.byteCells a ++ Lib.byteCells b := by simp [Lib.byteCells]
theorem byteCells_length (a : List UInt8) : (Lib.byteCells a).length = a.length := by simp [Lib.byteCells]

/-- The call's own row b holds the bytes l. -/
def OwnB (Bo : Nat) (w : World) (v : Value) (l : List UInt8) : Prop := w.ownsRow Bo 5 1 v l.length (Lib.byteCells l)
theorem OwnB.alloc {Bo : Nat} {w : World} {v : Value} {l : List UInt8} (h : OwnB Bo w v l) (o : Obj) : OwnB Bo (w.alloc o) v l := World.ownsRow.alloc h o
theorem OwnB.drewN {Bo : Nat} {w : World} {v : Value} {l : List UInt8} (h : OwnB Bo w v l) (n : Nat) : OwnB Bo (w.drewN n) v l := h
theorem OwnB.nil (Bo : Nat) (w : World) : OwnB Bo w (.slice none 0 0) [] := World.ownsRow_nil _ _ _ _

theorem put_b {ops : Array Oper} {rest : List Oper} {o : Oper} {a : Act} {Q : Exit → Act → World → Prop} (s x : Operand) (Bo : Nat) (v : Value) (l l2 : List UInt8) (w : World) (cs : Array Value)
    (hgd : o.guard = none) (ho : o.op = .call { callee := .builtin .append, args := #[s, x], argTypes := #[107, 107] })
    (hs : a.eval s = v) (hown : OwnB Bo w v l) (hcs : cs = (Lib.byteCells l2).toArray) (hx : a.eval x = .slice (some ⟨w.heap.size, 0, none⟩) l2.length l2.length)
    (hlim : l.length + l2.length ≤ 140737488355328) (hbase : Bo ≤ w.heap.size)
    (h : ∀ v' w', OwnB Bo w' v' (l ++ l2) → KeptX [5] Bo w w' → wpList Tryz.prog ops Q rest (a.put o.dst v') w') : wpList Tryz.prog ops Q (o :: rest) a (w.alloc (.cells cs 5)) := by
  subst hcs
  refine put_fresh s x Bo l.length v (Lib.byteCells l) (Lib.byteCells l2) w hgd ho hs hown (by rw [byteCells_length]; exact hx) (by simp [Lib.byteCells, Value.oneCell']) (by rw [byteCells_length]; exact hlim) hbase ?_
  intro v' w' h1 h2
  refine h v' w' ?_ h2
  unfold OwnB
  rw [List.length_append, byteCells_append]
  rwa [byteCells_length] at h1

end Go.Proofs.YtehakhplglhkdaaGreatDoor
