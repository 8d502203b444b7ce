/- How two events are compared, and how they are built; the plain law of Differ. -/
import Derived.Test.YtcalmojhdpagoaaDoorBase
import Derived.Test.YtcalmojhdpagoaaDoorRows
import Derived.WalkKit
namespace Go.Proofs.YtcalmojhdpagoaaDoor
open Go.RowKit

/-- Are two events alike? -/
def sameEv (a b : Int) (s : ByteArray) (a' b' : Int) (s' : ByteArray) : Bool := a == a' && b == b' && s.toList == s'.toList

theorem bytes_ext {s t : ByteArray} (h : s.toList = t.toList) : s = t := by
  rw [ByteArray.toList_eq, ByteArray.toList_eq] at h
  obtain ⟨⟨x⟩⟩ := s
  obtain ⟨⟨y⟩⟩ := t
  simp at h
  rw [h]

instance : DecidableEq Ev := fun x y =>
  if h : x.k = y.k ∧ x.p = y.p ∧ x.s = y.s then isTrue (by cases x; cases y; simp_all)
  else isFalse (fun e => h (by subst e; exact ⟨rfl, rfl, rfl⟩))

theorem sameEv_iff (x y : Ev) : sameEv x.k x.p x.s y.k y.p y.s = true ↔ x = y := by
  unfold sameEv
  cases x with | mk a b s => cases y with | mk a' b' s' =>
  simp only [Bool.and_eq_true, beq_iff_eq, Ev.mk.injEq]
  constructor
  · rintro ⟨⟨h1, h2⟩, h3⟩; exact ⟨h1, h2, bytes_ext h3⟩
  · rintro ⟨h1, h2, h3⟩; exact ⟨⟨h1, h2⟩, by rw [h3]⟩

@[go_sem ↓] theorem eq33 (a b : Int) (s : ByteArray) (a' b' : Int) (s' : ByteArray) (w : World) :
    (Op.equalIn 10000 33 (.agg #[.int .i64 a, .int .i64 b, .string s]) (.agg #[.int .i64 a', .int .i64 b', .string s'])).run Tryd.prog w = .ok (sameEv a b s a' b' s') w := by
  have hS : Tryd.prog.underlying 33 = some (.struct (Tryd.prog.fieldsOf 33)) := by kernel_rfl
  rw [show (10000 : Nat) = 9999 + 1 from rfl, run_equalIn_agg w 9999 33 _ _ hS Tryd.stoodInHeld33]
  simp only [Program.fieldsOf, Tryd.underlying33]
  simp [go_sem, sameEv]
  by_cases h1 : a = a' <;> by_cases h2 : b = b' <;> by_cases h3 : s.toList = s'.toList <;> simp [h1, h2, h3]

@[go_sem] theorem build33 (a : Int) (w : World) : (Instr.build 33 #[(0, .int .i64 a)]).run Tryd.prog w = .ok (.agg #[.int .i64 a, .int .i64 0, .string ⟨#[]⟩]) w := run_build w 33 _ _ (by kernel_rfl)

/-- How far two lists are alike. -/
def pre : List Ev → List Ev → Nat
  | x :: l, y :: m => if x = y then pre l m + 1 else 0
  | _, _ => 0
/-- What Differ answers. -/
def dif (l m : List Ev) : Int := if l.length = m.length ∧ pre l m = l.length then -1 else pre l m

theorem pre_le : (l m : List Ev) → pre l m ≤ l.length ∧ pre l m ≤ m.length
  | [], m => by simp [pre]
  | x :: l, [] => by simp [pre]
  | x :: l, y :: m => by
    have := pre_le l m
    simp only [pre, List.length_cons]
    split <;> omega

theorem pre_step : (l m : List Ev) → (k : Nat) → (hl : k < l.length) → (hm : k < m.length) → k ≤ pre l m → l[k] = m[k] → k + 1 ≤ pre l m
  | [], m, k, hl, hm, h, e => by simp at hl
  | x :: l, [], k, hl, hm, h, e => by simp at hm
  | x :: l, y :: m, 0, hl, hm, h, e => by simp at e; simp [pre, e]
  | x :: l, y :: m, k + 1, hl, hm, h, e => by
    simp only [pre] at h ⊢
    split at h
    · rename_i hxy
      simp only [hxy, if_true]
      have := pre_step l m k (by simpa using hl) (by simpa using hm) (by omega) (by simpa using e)
      omega
    · omega

theorem pre_stop : (l m : List Ev) → (k : Nat) → (hl : k < l.length) → (hm : k < m.length) → k ≤ pre l m → l[k] ≠ m[k] → pre l m = k
  | [], m, k, hl, hm, h, e => by simp at hl
  | x :: l, [], k, hl, hm, h, e => by simp at hm
  | x :: l, y :: m, 0, hl, hm, h, e => by simp at e; simp [pre, e]
  | x :: l, y :: m, k + 1, hl, hm, h, e => by
    simp only [pre] at h ⊢
    split at h
    · rename_i hxy
      simp only [hxy, if_true]
      have := pre_stop l m k (by simpa using hl) (by simpa using hm) (by omega) (by simpa using e)
      omega
    · omega

theorem dif_stop {l m : List Ev} {k : Nat} (hl : k < l.length) (hm : k < m.length) (h : k ≤ pre l m) (e : l[k] ≠ m[k]) : dif l m = k := by
  have := pre_stop l m k hl hm h e
  unfold dif
  rw [this, if_neg (by omega)]
theorem dif_end {l m : List Ev} {k : Nat} (h : k ≤ pre l m) (hk : ¬ k < l.length ∨ ¬ k < m.length) : dif l m = if l.length = m.length then (-1 : Int) else ((min l.length m.length : Nat) : Int) := by
  have := pre_le l m
  unfold dif
  by_cases e : l.length = m.length
  · rw [if_pos ⟨e, by omega⟩, if_pos e]
  · rw [if_neg (fun h => e h.1), if_neg e]
    congr 1
    omega

theorem pre_comm : (l m : List Ev) → pre l m = pre m l
  | [], [] => rfl
  | [], _ :: _ => by simp [pre]
  | _ :: _, [] => by simp [pre]
  | x :: l, y :: m => by
    simp only [pre, pre_comm l m]
    by_cases h : x = y
    · simp [h]
    · rw [if_neg h, if_neg (fun e => h e.symm)]
theorem dif_comm (l m : List Ev) : dif l m = dif m l := by
  unfold dif
  rw [pre_comm l m]
  by_cases h : l.length = m.length
  · simp [h]
  · rw [if_neg (fun e => h e.1), if_neg (fun e => h e.1.symm)]
end Go.Proofs.YtcalmojhdpagoaaDoor
