/- Rows of ints that a call itself makes: a path copied, grown, written. No walk. -/
import Derived.Test.YtehakhplglhkdaaGreatDoorRefOwn
import Derived.Test.YtehakhplglhkdaaGreatDoorOpenDat
import Derived.Laws.OwnMore
import Derived.Deep.AppendLies
namespace Go.Proofs.YtehakhplglhkdaaGreatDoor
set_option linter.unusedVariables false
open Go.RowKit

theorem info3 : (Tryz.prog.info? 3).map (fun i => (i.zero, i.size, i.bytes)) = some (some (.int .i64 0), 1, 8) := by kernel_rfl
theorem size3 : (Tryz.prog.info? 3).map (·.size) = some 1 := by kernel_rfl
/-- Ints as cells. -/
def intC (l : List Int) : List Value := l.map fun n => Value.int .i64 n
theorem intC_length (l : List Int) : (intC l).length = l.length := by simp [intC]
theorem intC_append (a b : List Int) : intC (a ++ b) = intC a ++ intC b := by simp [intC]
theorem intC_one (l : List Int) : ∀ u ∈ intC l, u.oneCell' = true := by simp [intC, Value.oneCell']
theorem intC_set (l : List Int) (k : Nat) (n : Int) : intC (l.set k n) = (intC l).set k (.int .i64 n) := by simp [intC, List.map_set]
/-- v, the call's own row, holds the ints l. -/
def OwnI (Bo : Nat) (w : World) (v : Value) (l : List Int) : Prop := w.ownsRow Bo 3 1 v l.length (intC l)
/-- Two values that do not lie in one block. -/
def Apart (u v : Value) : Prop := ∀ g, u.ownBlock = some g → v.ownBlock ≠ some g
theorem Apart.symm {u v : Value} (h : Apart u v) : Apart v u := fun g hg hu => h g hu hg

section
variable {Bo : Nat} {w w' : World} {v u : Value} {l : List Int}
theorem OwnI.nil (Bo : Nat) (w : World) : OwnI Bo w (.slice none 0 0) [] := World.ownsRow_nil _ _ _ _
theorem OwnI.alloc (h : OwnI Bo w v l) (o : Obj) : OwnI Bo (w.alloc o) v l := World.ownsRow.alloc h o
theorem OwnI.drewN (h : OwnI Bo w v l) (n : Nat) : OwnI Bo (w.drewN n) v l := h
theorem OwnI.lt (h : OwnI Bo w v l) {g : Nat} (hg : v.ownBlock = some g) : Bo ≤ g ∧ g < w.heap.size := World.ownsRow.lt h g hg
theorem OwnI.below (h : OwnI Bo w v l) {B : Nat} (hb : Below B w w') (hB : w.heap.size ≤ B) : OwnI Bo w' v l :=
  own_same h fun g hg => hb.block g (by have := h.lt hg; omega)
theorem OwnI.kept (h : OwnI Bo w v l) (hg : w.grownBy w' u.ownBlock) (ha : Apart v u) : OwnI Bo w' v l :=
  own_same h fun g hv => hg.block g (h.lt hv).2 (fun e => ha g hv e.symm)
theorem OwnI.shape (h : OwnI Bo w v l) : ∃ A c, v = .slice A l.length c := own_shape h
theorem OwnI.low (h : OwnI Bo w v l) {B : Nat} (hB : B ≤ Bo) : OwnI B w v l := by
  refine ⟨h.1, ?_⟩
  rcases h.2 with hn | ⟨g, cap, cur, hv, hb, r⟩
  · exact .inl hn
  · exact .inr ⟨g, cap, cur, hv, Nat.le_trans hB hb, r⟩
theorem OwnI.ints {A : Option Addr} {n c : Nat} (h : OwnI Bo w (.slice A n c) l) : IntsAt w A l := fun hpos => by
  have hp : 0 < l.length := by simpa using hpos
  rcases h.2 with ⟨_, h0⟩ | ⟨g, cap, cur, hv, hb, hg, hnc, hcm, _⟩
  · omega
  · injection hv with h1 h2 h3
    subst h1 h2 h3
    refine ⟨g, 0, rfl, (Array.getElem?_eq_some_iff.1 hg).1, fun j u hu => ?_⟩
    have := World.ownsRow.cells h (g := g) rfl j u hu
    rw [Addr.add_lit] at this
    exact this
theorem OwnI.addr {A : Option Addr} {n c : Nat} (h : OwnI Bo w (.slice A n c) l) (hp : 0 < l.length) : ∃ g, A = some ⟨g, 0, none⟩ ∧ n = l.length ∧ n ≤ c ∧ c ≤ maxLen := by
  rcases h.2 with ⟨_, h0⟩ | ⟨g, cap, cur, hv, hb, hg, hnc, hcm, _⟩
  · omega
  · injection hv with h1 h2 h3
    subst h1 h2 h3
    exact ⟨g, rfl, rfl, hnc, hcm⟩
theorem OwnI.none_ {n c : Nat} (h : OwnI Bo w (.slice none n c) l) : l = [] ∧ n = 0 ∧ c = 0 := by
  rcases h.2 with ⟨hv, h0⟩ | ⟨g, cap, cur, hv, _⟩
  · injection hv with h1 h2 h3
    exact ⟨List.eq_nil_of_length_eq_zero h0, h2, h3⟩
  · injection hv with h1 _ _
    cases h1
end

theorem IntsAt.below {w w' : World} {A : Option Addr} {l : List Int} (h : IntsAt w A l) (hb : Below w.heap.size w w') : IntsAt w' A l := Lies.below h hb rfl
theorem IntsAt.low {w w' : World} {A : Option Addr} {l : List Int} {B : Nat} (h : IntsAt w A l) (hA : ∀ a, A = some a → a.block < B) (hb : Below B w w') : IntsAt w' A l := fun hp => by
  obtain ⟨b, off, e, hlt, hc⟩ := h hp
  have := hA _ e
  exact ⟨b, off, e, Nat.lt_of_lt_of_le hlt hb.size, fun j u hu => (hb.cell (p := ⟨b, off + j, none⟩) this).trans (hc j u hu)⟩
theorem IntsAt.at_ {w : World} {A : Option Addr} {l : List Int} (h : IntsAt w A l) (hp : 0 < l.length) : ∃ b off, A = some ⟨b, off, none⟩ ∧ b < w.heap.size ∧ ∀ (j : Nat) (hj : j < l.length), w.cell? ⟨b, off + j, none⟩ = some (.int .i64 l[j]) := by
  obtain ⟨b, off, e, hlt, hc⟩ := h (by simpa using hp)
  exact ⟨b, off, e, hlt, fun j hj => hc j _ (by simp [hj])⟩

/-- append(nil, p ...). -/
theorem copy_i {ops : Array Oper} {rest : List Oper} {o : Oper} {a : Act} {Q : Exit → Act → World → Prop} (s x : Operand) (A : Option Addr) (c : Nat) (l : List Int) (w : World)
    (hgd : o.guard = none) (ho : o.op = .call { callee := .builtin .append, args := #[s, x], argTypes := #[23, 23] })
    (hs : a.eval s = .slice none 0 0) (hx : a.eval x = .slice A l.length c) (hn : A = none → c = 0) (hA : IntsAt w A l) (hlim : l.length ≤ 17592186044000)
    (h : ∀ B cp w', OwnI w.heap.size w' (.slice B l.length cp) l → Below w.heap.size w w' → wpList Tryz.prog ops Q rest (a.put o.dst (.slice B l.length cp)) w') : wpList Tryz.prog ops Q (o :: rest) a w := by
  obtain ⟨i3, hi, hz, hs3, hy⟩ := info_parts info3
  cases A with
  | none =>
    have hl0 : l = [] := by
      cases l with
      | nil => rfl
      | cons x r => obtain ⟨b, off, e, _⟩ := hA.at_ (by simp); cases e
    subst hl0
    obtain rfl := hn rfl
    refine wpList_plain hgd fun _ hK => ?_
    have hr := run_append_owned_none (P := Tryz.prog) w w.heap.size 23 o.type 3 i3 1 Tryz.underlying23 hi (.slice none 0 0) 0 [] (World.ownsRow_nil _ _ _ _)
    unfold Oper.wp execOp
    simp only [List.length_nil] at hx
    simp only [ho, resolve, invoke, builtin, Sem.run_bind, Sem.run_pure, Result.andThen_ok, List.map_toArray, List.map_cons, List.map_nil, hs, hx, hr]
    exact hK _ _ (h none 0 w (OwnI.nil _ _) (Below.refl _ _))
  | some ad =>
    refine wpList_append_own w hgd s x 23 ho w.heap.size 3 i3 (.int .i64 0) 1 8 Tryz.underlying23 hi hz hs3 hy rfl (by decide) (.slice none 0 0) 0 [] hs (World.ownsRow_nil _ _ _ _) ad l.length c (intC l) hx (by rw [intC_length]; omega) ?_ (intC_one l) (by simp only [maxLen]; omega) (by omega) (Nat.le_refl _) ?_
    · intro j u hu
      have hj : j < l.length := by
        have := (List.getElem?_eq_some_iff.1 hu).1
        rwa [intC_length] at this
      have hq := hA.at_ (Nat.lt_of_le_of_lt (Nat.zero_le j) hj)
      obtain ⟨b, off, e, _, hc⟩ := hq
      have e2 : ad = ⟨b, off, none⟩ := Option.some.inj e
      rw [e2, Addr.add_lit, hc j hj]
      have : (intC l)[j]? = some (.int .i64 l[j]) := by simp [intC, hj]
      rw [← hu, this]
    · intro v' w' hown hg _
      rw [Nat.zero_add, List.nil_append] at hown
      have ho2 : OwnI w.heap.size w' v' l := hown
      obtain ⟨B, cp, rfl⟩ := ho2.shape
      exact h B cp w' ho2 ((Below.refl _ _).grown hg (Nat.le_refl _) (fun k hk => by simp [Value.ownBlock] at hk))

/-- append(x, n), x the call's own. -/
theorem put_i {ops : Array Oper} {rest : List Oper} {o : Oper} {a : Act} {Q : Exit → Act → World → Prop} (s x : Operand) (Bo : Nat) (v : Value) (l : List Int) (n : Int) (w : World) (cs : Array Value)
    (hgd : o.guard = none) (ho : o.op = .call { callee := .builtin .append, args := #[s, x], argTypes := #[23, 23] })
    (hs : a.eval s = v) (hown : OwnI Bo w v l) (hcs : cs = #[.int .i64 n]) (hx : a.eval x = .slice (some ⟨w.heap.size, 0, none⟩) 1 1)
    (hlim : l.length ≤ 17592186044000) (hbase : Bo ≤ w.heap.size)
    (h : ∀ v' w', OwnI Bo w' v' (l ++ [n]) → Below Bo w w' → (∀ u m B, OwnI B w u m → Apart u v → OwnI B w' u m ∧ Apart u v') → wpList Tryz.prog ops Q rest (a.put o.dst v') w') : wpList Tryz.prog ops Q (o :: rest) a (w.alloc (.cells cs 3)) := by
  subst hcs
  obtain ⟨i3, hi, hz, hs3, hy⟩ := info_parts info3
  refine wpList_append_lies (w.alloc (.cells #[.int .i64 n] 3)) hgd s x 23 ho Bo 3 i3 (.int .i64 0) 1 8 Tryz.underlying23 hi hz hs3 hy rfl (by decide) v l.length (intC l) hs (World.ownsRow.alloc hown _) ⟨w.heap.size, 0, none⟩ 1 1 [.int .i64 n] hx (by simp) ?_ (by simp [Value.oneCell']) (by omega) (by simp only [maxLen]; omega) (by omega) (by simp; omega) _ rfl ?_
  · intro j u hu
    have := (Row.made w 3 [.int .i64 n]).cell j
    rw [Addr.add_lit, Nat.zero_add, this]
    exact hu
  · intro g cap w1 ho1 hg1 hat hlt
    refine h _ w1 ?_ ?_ ?_
    · show World.ownsRow _ _ _ _ _ _ _
      rw [List.length_append, intC_append]
      exact ho1
    · exact ((Below.refl Bo w).alloc hbase _).grown hg1 (by simp; omega) (fun k hk => (hown.lt hk).1)
    · intro u m B hu ha
      refine ⟨(hu.alloc _).kept hg1 ha, fun k hk e => ?_⟩
      have hkl := (hu.lt hk).2
      simp only [Value.ownBlock, Option.some.injEq] at e
      subst e
      rcases hat with hat | hat
      · exact ha _ hk hat
      · rw [hat] at hkl; simp at hkl; omega

/-- x[k] = n, x the call's own. -/
theorem OwnI.stored {Bo : Nat} {w : World} {g c : Nat} {l : List Int} {len : Nat} (h : OwnI Bo w (.slice (some ⟨g, 0, none⟩) len c) l) (k : Nat) (n : Int) :
    OwnI Bo (w.setCell ⟨g, k, none⟩ (.int .i64 n)) (.slice (some ⟨g, 0, none⟩) len c) (l.set k n) ∧ (Below Bo w (w.setCell ⟨g, k, none⟩ (.int .i64 n))) ∧ (∀ u m B, OwnI B w u m → Apart u (.slice (some ⟨g, 0, none⟩) len c) → OwnI B (w.setCell ⟨g, k, none⟩ (.int .i64 n)) u m) := by
  have hlen : len = l.length := by
    obtain ⟨A, cc, e⟩ := h.shape
    injection e
  subst hlen
  obtain ⟨h1, h2⟩ := World.ownsRow.stored h k (.int .i64 n)
  refine ⟨?_, ?_, fun u m B hu ha => OwnI.kept (u := .slice (some ⟨g, 0, none⟩) l.length c) hu h2 ha⟩
  · show World.ownsRow _ _ _ _ _ _ _
    rw [List.length_set, intC_set]
    exact h1
  · exact Below.setCell (p := ⟨g, k, none⟩) (Below.refl _ _) (show Bo ≤ g from (h.lt (g := g) rfl).1) _
theorem OwnI.cell {Bo : Nat} {w : World} {g c len : Nat} {l : List Int} (h : OwnI Bo w (.slice (some ⟨g, 0, none⟩) len c) l) (k : Nat) (hk : k < l.length) : w.cell? ⟨g, k, none⟩ = some (.int .i64 l[k]) := by
  have := World.ownsRow.cells h (g := g) rfl k (.int .i64 l[k]) (by simp [intC, hk])
  rw [Addr.add_lit, Nat.zero_add] at this
  exact this
theorem OwnI.free {Bo : Nat} {w : World} {g c len : Nat} {l : List Int} (h : OwnI Bo w (.slice (some ⟨g, 0, none⟩) len c) l) (k : Nat) : w.frozen? ⟨g, k, none⟩ = false := by
  have hlen : len = l.length := by
    obtain ⟨A, cc, e⟩ := h.shape
    injection e
  subst hlen
  exact World.ownsRow.frozenAt h k

/-- l with its first k replaced. -/
def filled (n : Int) (k : Nat) (l : List Int) : List Int := List.replicate k n ++ l.drop k
theorem filled_zero (n : Int) (l : List Int) : filled n 0 l = l := by simp [filled]
theorem filled_length (n : Int) (k : Nat) (l : List Int) (h : k ≤ l.length) : (filled n k l).length = l.length := by simp [filled]; omega
theorem filled_all (n : Int) (l : List Int) : filled n l.length l = List.replicate l.length n := by simp [filled]
theorem filled_set (n : Int) (k : Nat) (l : List Int) (h : k < l.length) : (filled n k l).set k n = filled n (k + 1) l := by
  unfold filled
  rw [List.set_append_right _ _ (by simp), List.length_replicate, Nat.sub_self, List.drop_eq_getElem_cons h, List.set_cons_zero, List.replicate_succ']
  simp
theorem filled_get (n : Int) (k j : Nat) (l : List Int) (hk : k ≤ j) (h : j < l.length) : (filled n k l)[j]? = some l[j] := by
  unfold filled
  rw [List.getElem?_append_right (by simp; omega), List.length_replicate, List.getElem?_drop, show k + (j - k) = j by omega, List.getElem?_eq_getElem h]
theorem replicate_more (n : Int) (k : Nat) : List.replicate k n ++ [n] = List.replicate (k + 1) n := List.replicate_succ'.symm
end Go.Proofs.YtehakhplglhkdaaGreatDoor
