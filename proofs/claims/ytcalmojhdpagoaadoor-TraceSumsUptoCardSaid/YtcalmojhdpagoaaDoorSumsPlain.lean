/- What TraceSums leans on: counts of two lists one behind the other, Differ of a list and itself, of a list and a longer one; append of events that came in; Lines of any text. -/
import Derived.Test.YtcalmojhdpagoaaDoorLawLines
import Derived.Test.YtcalmojhdpagoaaDoorOpen
import Derived.Laws.AppendOwnNone
namespace Go.Proofs.YtcalmojhdpagoaaDoor
set_option linter.unusedVariables false
open Go.RowKit

theorem countAt_append (s : ByteArray) (a b : List Ev) (j : Nat) : countAt s (a ++ b) j = countAt s a j + countAt s b j := by
  simp [countAt]
theorem pre_front (a b : List Ev) : pre a (a ++ b) = a.length := by
  induction a with
  | nil => simp [pre]
  | cons x l ih => simp [pre, ih]
theorem dif_front (a b : List Ev) : dif a (a ++ b) = if 0 < b.length then (a.length : Int) else -1 := by
  unfold dif
  rw [pre_front, List.length_append]
  by_cases h : 0 < b.length
  · rw [if_neg (by omega), if_pos h]
  · rw [if_pos (by omega), if_neg h]
theorem dif_self (a : List Ev) : dif a a = -1 := by
  have := dif_front a []
  simpa using this
theorem pre_at : (a b : List Ev) → (i : Nat) → (ha : i < a.length) → (hb : i < b.length) → i < pre a b → a[i] = b[i]
  | [], b, i, ha, hb, h => by simp at ha
  | x :: a, [], i, ha, hb, h => by simp at hb
  | x :: a, y :: b, i, ha, hb, h => by
    simp only [pre] at h
    split at h
    · rename_i e
      cases i with
      | zero => simpa using e
      | succ i => simpa using pre_at a b i (by simpa using ha) (by simpa using hb) (by omega)
    · omega
theorem pre_end (a b : List Ev) (ha : pre a b < a.length) (hb : pre a b < b.length) : a[pre a b] ≠ b[pre a b] := fun e => by
  have := pre_step a b _ ha hb (Nat.le_refl _) e
  omega
theorem dif_ways (a b : List Ev) : (a = b ∧ dif a b = -1) ∨ (dif a b = (pre a b : Nat) ∧ (pre a b = a.length ∧ pre a b < b.length ∨ pre a b = b.length ∧ pre a b < a.length ∨ pre a b < a.length ∧ pre a b < b.length)) := by
  have h := pre_le a b
  by_cases e : a.length = b.length ∧ pre a b = a.length
  · left
    refine ⟨List.ext_getElem e.1 fun i h1 h2 => pre_at a b i h1 h2 (by omega), ?_⟩
    unfold dif
    rw [if_pos e]
  · right
    refine ⟨?_, by omega⟩
    unfold dif
    rw [if_neg e]

theorem drawn_refl (w : World) : ∃ n, w.drewN n = w := ⟨0, rfl⟩
theorem drawn_more {w a : World} (h : ∃ n, w.drewN n = a) (k : Nat) : ∃ n, w.drewN n = a.drewN k := by
  obtain ⟨n, rfl⟩ := h; exact ⟨n + k, by rw [World.drewN_drewN]⟩
theorem drawn_trans {w a b : World} (h : ∃ n, w.drewN n = a) (h2 : ∃ n, a.drewN n = b) : ∃ n, w.drewN n = b := by
  obtain ⟨k, rfl⟩ := h2; exact drawn_more h k

/-- append(v, x...), v the call's own events, x events that came in. -/
theorem put_any {ops : Array Oper} {rest : List Oper} {o : Oper} {a : Act} {Q : Exit → Act → World → Prop} (s x : Operand) (Bo : Nat) (v : Value) (l l2 : List Ev) (A : Option Addr) (c2 : Nat) (w : World)
    (hgd : o.guard = none) (ho : o.op = .call { callee := .builtin .append, args := #[s, x], argTypes := #[22, 22] })
    (hs : a.eval s = v) (hown : w.ownsRow Bo 33 3 v l.length (flat l)) (hx : a.eval x = .slice A l2.length c2) (hE : Evs w A l2) (hA : A = none → c2 = 0)
    (hlim : (l.length + l2.length) * 32 ≤ 140737488355328) (hbase : Bo ≤ w.heap.size)
    (h : ∀ v' w', w'.ownsRow Bo 33 3 v' (l ++ l2).length (flat (l ++ l2)) → Below Bo w w' → wpList Tryd.prog ops Q rest (a.put o.dst v') w') : wpList Tryd.prog ops Q (o :: rest) a w := by
  obtain ⟨i0, hi, hz0, hz1, hz2⟩ := info_parts info33
  cases A with
  | none =>
    have h0 : l2 = [] := by
      cases l2 with
      | nil => rfl
      | cons e l2 =>
        obtain ⟨b, off, he, _⟩ := hE (by rw [flat_length]; simp)
        cases he
    subst h0
    rw [hA rfl] at hx
    refine wpList_append_own_none hgd s x 22 ho Bo 33 i0 3 Tryd.underlying22 hi v l.length (flat l) hs hown hx ?_
    exact h v w (by rwa [List.append_nil]) (Below.refl _ _)
  | some ad =>
    refine wpList_append_own w hgd s x 22 ho Bo 33 i0 _ 3 32 Tryd.underlying22 hi hz0 hz1 hz2 rfl (by decide) v l.length (flat l) hs hown ad l2.length c2 (flat l2) hx (flat_length l2) ?_ (flat_one l2) (by simp only [maxLen]; omega) hlim hbase ?_
    · intro j u hu
      obtain ⟨b, off, he, _, hc⟩ := hE (by have := (List.getElem?_eq_some_iff.1 hu).1; omega)
      obtain rfl : ad = ⟨b, off, none⟩ := by injection he
      rw [Go.WideShapes.add_plain]
      exact hc j u hu
    · intro v' w' hown' hgr _
      refine h v' w' ?_ ((Below.refl _ _).grown hgr hbase (fun k hk => (hown.lt k hk).1))
      rw [List.length_append, flat_append]
      exact hown'

/-- Ints that lie at X, if there are any. -/
def Ints (w : World) (X : Option Addr) (n : Nat) (f : Nat → Int) : Prop := 0 < n → ∃ g, X = some ⟨g, 0, none⟩ ∧ Row w g 3 (ints n f)
theorem Ints.below {w w' : World} {X : Option Addr} {n : Nat} {f : Nat → Int} (h : Ints w X n f) (hb : Below w.heap.size w w') : Ints w' X n f := fun h0 => by
  obtain ⟨g, rfl, hr⟩ := h h0
  exact ⟨g, rfl, hr.below hb hr.lt⟩
theorem Ints.drawn {w w' : World} {X : Option Addr} {n : Nat} {f : Nat → Int} (h : Ints w X n f) (h2 : ∃ k, w.drewN k = w') : Ints w' X n f := by
  obtain ⟨k, rfl⟩ := h2; exact h
/-- How many lines. -/
def nLines (s : ByteArray) : Nat := if 60000 < s.size then 0 else lineOf s s.size + 1
theorem nLines_le (s : ByteArray) : nLines s ≤ 60001 := by
  unfold nLines
  have := lineOf_le s s.size
  split <;> omega
theorem lines_any (s : ByteArray) (A : Option Addr) (ca : Nat) (l : List Ev) (w : World) (ha : Evs w A l) (hs : s.size ≤ 9223372036854775807) (hl : l.length * 32 ≤ 140737488355328) :
    Calls Tryd.prog 13 #[.string s, .slice A l.length ca] w fun e w' => ∃ X, e = .returned (.slice X (nLines s) (nLines s)) ∧ Ints w' X (nLines s) (fun j => (countAt s l j : Int)) ∧ Below w.heap.size w w' := by
  by_cases h : 60000 < s.size
  · refine (lines_long s A ca l w h hs).mono ?_
    rintro e w' ⟨rfl, rfl⟩
    have h0 : nLines s = 0 := by unfold nLines; rw [if_pos h]
    rw [h0]
    exact ⟨none, rfl, fun h => absurd h (by omega), Below.refl _ _⟩
  · refine (lines_short s A ca l w ha (by omega) hl).mono ?_
    rintro e w' ⟨rfl, hr, hb⟩
    have h0 : nLines s = lineOf s s.size + 1 := by unfold nLines; rw [if_neg h]
    rw [lns_row] at hr
    rw [h0]
    exact ⟨_, rfl, fun _ => ⟨_, rfl, hr⟩, hb⟩
end Go.Proofs.YtcalmojhdpagoaaDoor
