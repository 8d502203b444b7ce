/- The fault 'operand' of two words and of three; what the laws hold against each other: data that are the same, errors told, errors apart. Conditions: the words are short. -/
import Derived.Test.YtehakhplglhkdaaGreatDoorSmall
import Derived.Test.YtehakhplglhkdaaGreatDoorJoin48
import Derived.Test.YtehakhplglhkdaaGreatDoorDivz
import Derived.LaidEqlPtr
namespace Go.Proofs.YtehakhplglhkdaaGreatDoor
set_option linter.unusedVariables false
open Go.RowKit

theorem info35 : ∃ j, Tryz.prog.info? 35 = some j ∧ j.size ≠ 0 := by
  have h : (Tryz.prog.info? 35).map (·.size) = some 2 := by kernel_rfl
  cases e : Tryz.prog.info? 35 with
  | none => rw [e] at h; cases h
  | some j => rw [e] at h; refine ⟨j, rfl, ?_⟩; simp at h; omega
theorem neq64 (g h : Nat) (w : World) (cg ch : List Value) (hne : g ≠ h) (hg : Row w g 35 cg) (hh : Row w h 35 ch) :
    (binOp .neq 64 (.pointer (some ⟨g, 0, none⟩)) (.pointer (some ⟨h, 0, none⟩))).run Tryz.prog w = .ok (.bool true) w := by
  obtain ⟨j, hj, hs⟩ := info35
  have hk : ∀ d : Nat, (Op.equalIn (d + 1) 64 (.pointer (some ⟨g, 0, none⟩)) (.pointer (some ⟨h, 0, none⟩))).run Tryz.prog w = .ok false w := fun d => by
    simp [Op.equalIn, run_underlying Tryz.underlying64, sizeOf, typeInfo, hj, hs, run_sameAddr_other w (a := ⟨g, 0, none⟩) (b := ⟨h, 0, none⟩) (by simp) hg hh]
  simp only [binOp]
  simp [Op.equal, Op.maxDepth, hk 9999]
/-- The fault's word. -/
def sOperand : ByteArray := ⟨#[111, 112, 101, 114, 97, 110, 100]⟩
theorem join2 (x y : ByteArray) : (⟨(Lib.join ([x, y].map (·.data.toList)) (⟨#[32]⟩ : ByteArray).data.toList).toArray⟩ : ByteArray) = x ++ ⟨#[32]⟩ ++ y := by
  apply ByteArray.ext
  simp [Lib.join_cons, Lib.joinTail]
theorem join3 (x y z : ByteArray) : (⟨(Lib.join ([x, y, z].map (·.data.toList)) (⟨#[32]⟩ : ByteArray).data.toList).toArray⟩ : ByteArray) = x ++ ⟨#[32]⟩ ++ y ++ ⟨#[32]⟩ ++ z := by
  apply ByteArray.ext
  simp [Lib.join_cons, Lib.joinTail]

theorem operand2 (A : Nat) (ty : TypeId) (x y : ByteArray) (w : World) (h : Row w A ty [.string x, .string y]) (hs : x.size + y.size ≤ 281474976710650) :
    Calls Tryz.prog 39 #[.slice (some ⟨A, 0, none⟩) 2 2] w fun e w' => ∃ v, e = .returned v ∧ IsFault w w' v sOperand (x ++ ⟨#[32]⟩ ++ y) ∧ Below w.heap.size w w' := by
  have hj := Tryz.strings_Join_48 A 0 2 [x, y] ⟨#[32]⟩ w (fun j u hu => by
    have hc := h.cell j
    rw [Nat.zero_add, hc]
    rcases j with _ | _ | j <;> simp at hu ⊢ <;> exact hu) h.lt (by simp) (by simp) (by
      have e1 : x.size = x.data.size := rfl
      have e2 : y.size = y.data.size := rfl
      simp [Lib.join_cons, Lib.joinTail]; omega)
  rw [join2] at hj
  generalize x ++ ⟨#[32]⟩ ++ y = m at *
  have HJ : Hid (Calls Tryz.prog 66 #[.slice (some ⟨A, 0, none⟩) 2 2, .string ⟨#[32]⟩] w fun e w' => e = .returned (.string m) ∧ Below w.heap.size w w') := hj
  clear hj h hs
  go_enter Tryz.func39, Tryz.ntmps39
  go_wp2_with (first
    | (go_at_call 66; refine HJ.out.mono ?_; rintro en w2 ⟨rfl, hb⟩; have B2 := Lib.hid hb; clear hb HJ)
    | (go_at_call 65; refine (fault_any _ _ _).mono ?_; rintro en w3 ⟨g, rfl, hg, hr, hb⟩
       have B3 : Hid (Below w.heap.size w w3) := below_more B2.out hb B2.out.size
       have hg3 : Hid (w.heap.size ≤ g) := Nat.le_trans B2.out.size hg
       have F3 := Lib.hid hr
       clear hr hb hg B2))
  go_returns
  exact ⟨_, rfl, ⟨g, rfl, hg3.out, F3.out⟩, B3.out⟩
theorem operand3 (A : Nat) (ty : TypeId) (x y z : ByteArray) (w : World) (h : Row w A ty [.string x, .string y, .string z]) (hs : x.size + y.size + z.size ≤ 281474976710650) :
    Calls Tryz.prog 39 #[.slice (some ⟨A, 0, none⟩) 3 3] w fun e w' => ∃ v, e = .returned v ∧ IsFault w w' v sOperand (x ++ ⟨#[32]⟩ ++ y ++ ⟨#[32]⟩ ++ z) ∧ Below w.heap.size w w' := by
  have hj := Tryz.strings_Join_48 A 0 3 [x, y, z] ⟨#[32]⟩ w (fun j u hu => by
    have hc := h.cell j
    rw [Nat.zero_add, hc]
    rcases j with _ | _ | _ | j <;> simp at hu ⊢ <;> exact hu) h.lt (by simp) (by simp) (by
      have e1 : x.size = x.data.size := rfl
      have e2 : y.size = y.data.size := rfl
      have e3 : z.size = z.data.size := rfl
      simp [Lib.join_cons, Lib.joinTail]; omega)
  rw [join3] at hj
  generalize x ++ ⟨#[32]⟩ ++ y ++ ⟨#[32]⟩ ++ z = m at *
  have HJ : Hid (Calls Tryz.prog 66 #[.slice (some ⟨A, 0, none⟩) 3 3, .string ⟨#[32]⟩] w fun e w' => e = .returned (.string m) ∧ Below w.heap.size w w') := hj
  clear hj h hs
  go_enter Tryz.func39, Tryz.ntmps39
  go_wp2_with (first
    | (go_at_call 66; refine HJ.out.mono ?_; rintro en w2 ⟨rfl, hb⟩; have B2 := Lib.hid hb; clear hb HJ)
    | (go_at_call 65; refine (fault_any _ _ _).mono ?_; rintro en w3 ⟨g, rfl, hg, hr, hb⟩
       have B3 : Hid (Below w.heap.size w w3) := below_more B2.out hb B2.out.size
       have hg3 : Hid (w.heap.size ≤ g) := Nat.le_trans B2.out.size hg
       have F3 := Lib.hid hr
       clear hr hb hg B2))
  go_returns
  exact ⟨_, rfl, ⟨g, rfl, hg3.out, F3.out⟩, B3.out⟩

set_option maxRecDepth 200000 in
set_option maxHeartbeats 2000000 in
theorem same_mk (k n f : Int) (t s : ByteArray) (w : World) : Calls Tryz.prog 14 #[(mk k t n f s).val, (mk k t n f s).val] w fun e w' => e = .returned (.bool true) ∧ Below w.heap.size w w' := by
  unfold mk Dat.val
  go_enter Tryz.func14, Tryz.ntmps14
  go_wp2
  go_rounds 1
  go_returns
  exact ⟨rfl, by go_grown⟩
set_option maxRecDepth 200000 in
set_option maxHeartbeats 2000000 in
theorem told_none (w : World) : Calls Tryz.prog 15 #[.nilIface, .agg #[.string ⟨#[]⟩, .string ⟨#[]⟩]] w fun e w' => e = .returned (.bool true) ∧ Below w.heap.size w w' := by
  go_enter Tryz.func15, Tryz.ntmps15
  go_wp2
  go_returns
  exact ⟨rfl, by go_grown⟩
set_option maxRecDepth 200000 in
set_option maxHeartbeats 2000000 in
theorem fresh_none (w : World) : Calls Tryz.prog 16 #[.nilIface, .nilIface] w fun e w' => e = .returned (.bool true) ∧ Below w.heap.size w w' := by
  go_enter Tryz.func16, Tryz.ntmps16
  go_wp2
  go_returns
  exact ⟨rfl, by go_grown⟩
set_option maxRecDepth 200000 in
set_option maxHeartbeats 2000000 in
theorem fresh_two (g h : Nat) (w : World) (cg ch : List Value) (hne : g ≠ h) (hg : Row w g 35 cg) (hh : Row w h 35 ch) : Calls Tryz.prog 16 #[.iface 64 (.pointer (some ⟨g, 0, none⟩)), .iface 64 (.pointer (some ⟨h, 0, none⟩))] w fun e w' => e = .returned (.bool true) ∧ Below w.heap.size w w' := by
  have hq := neq64 g h w cg ch hne hg hh
  go_enter Tryz.func16, Tryz.ntmps16
  go_wp2
  go_returns
  exact ⟨rfl, by go_grown⟩
end Go.Proofs.YtehakhplglhkdaaGreatDoor
