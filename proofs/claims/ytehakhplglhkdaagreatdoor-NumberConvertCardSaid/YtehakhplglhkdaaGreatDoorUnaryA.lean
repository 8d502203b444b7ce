/- number.Unary, every operation and every datum: answers and the fault. Conditions of the fault: the texts are short. -/
import Derived.Test.YtehakhplglhkdaaGreatDoorOperand
import Derived.Test.YtehakhplglhkdaaGreatDoorFloats
import Derived.Test.YtehakhplglhkdaaGreatDoorBin3
namespace Go.Proofs.YtehakhplglhkdaaGreatDoor
set_option linter.unusedVariables false
open Go.RowKit

theorem row_atOne (w : World) (A : Obj) (t : TypeId) (cs : List Value) : Row ((w.alloc A).alloc (.cells cs.toArray t)) (w.heap.size + 1) t cs := by
  have := Row.made (w.alloc A) t cs
  simpa using this
theorem name_size (d : Dat) : (nameOf d).size ≤ d.t.size + 3 := by
  unfold nameOf
  split
  · show 3 ≤ _
    omega
  · split
    · rw [ByteArray.size_append]
      show 1 + _ ≤ _
      omega
    · omega
set_option maxRecDepth 200000 in
set_option maxHeartbeats 2000000 in
theorem una_neg (t s : ByteArray) (n f ro rf rl rc : Int) (pa ia : Option Addr) (pn pc iN ic : Nat) (w : World) : Calls Tryz.prog 12 #[.string ⟨#[45]⟩, (Dat.mk 2 t n f s ro rf rl rc pa pn pc ia iN ic).val] w fun e w' => e = .returned (.tuple #[(mk 2 t (wrap64 (-n)) 0 ⟨#[]⟩).val, .nilIface]) ∧ Below w.heap.size w w' := by
  unfold mk Dat.val
  go_enter Tryz.func12, Tryz.ntmps12
  go_wp2
  go_returns
  exact ⟨rfl, by go_grown⟩
set_option maxRecDepth 200000 in
set_option maxHeartbeats 2000000 in
theorem una_not (t s : ByteArray) (n f ro rf rl rc : Int) (pa ia : Option Addr) (pn pc iN ic : Nat) (w : World) : Calls Tryz.prog 12 #[.string ⟨#[94]⟩, (Dat.mk 2 t n f s ro rf rl rc pa pn pc ia iN ic).val] w fun e w' => e = .returned (.tuple #[(mk 2 t (bits BinOp.xor .i64 (-1) n) 0 ⟨#[]⟩).val, .nilIface]) ∧ Below w.heap.size w w' := by
  unfold mk Dat.val
  go_enter Tryz.func12, Tryz.ntmps12
  go_wp2
  go_returns
  exact ⟨rfl, by go_grown⟩
set_option maxRecDepth 200000 in
set_option maxHeartbeats 2000000 in
theorem una_bang1 (t s : ByteArray) (n f ro rf rl rc : Int) (pa ia : Option Addr) (pn pc iN ic : Nat) (h0 : (n == 0) = true) (w : World) : Calls Tryz.prog 12 #[.string ⟨#[33]⟩, (Dat.mk 1 t n f s ro rf rl rc pa pn pc ia iN ic).val] w fun e w' => e = .returned (.tuple #[(mk 1 t 1 0 ⟨#[]⟩).val, .nilIface]) ∧ Below w.heap.size w w' := by
  unfold mk Dat.val
  go_enter Tryz.func12, Tryz.ntmps12
  go_wp2
  go_returns
  exact ⟨rfl, by go_grown⟩
set_option maxRecDepth 200000 in
set_option maxHeartbeats 2000000 in
theorem una_bang0 (t s : ByteArray) (n f ro rf rl rc : Int) (pa ia : Option Addr) (pn pc iN ic : Nat) (h0 : (n == 0) = false) (w : World) : Calls Tryz.prog 12 #[.string ⟨#[33]⟩, (Dat.mk 1 t n f s ro rf rl rc pa pn pc ia iN ic).val] w fun e w' => e = .returned (.tuple #[(mk 1 t 0 0 ⟨#[]⟩).val, .nilIface]) ∧ Below w.heap.size w w' := by
  unfold mk Dat.val
  go_enter Tryz.func12, Tryz.ntmps12
  go_wp2
  go_returns
  exact ⟨rfl, by go_grown⟩
set_option maxRecDepth 200000 in
set_option maxHeartbeats 2000000 in
theorem una_f0 (op : ByteArray) (t s : ByteArray) (n f ro rf rl rc : Int) (pa ia : Option Addr) (pn pc iN ic : Nat) (k : Int) (h1 : (op.toList == [45]) = false) (h2 : (op.toList == [94]) = false) (h3 : (op.toList == [33]) = false) (w : World) (hs : op.size + t.size ≤ 281474976710600) : Calls Tryz.prog 12 #[.string op, (Dat.mk k t n f s ro rf rl rc pa pn pc ia iN ic).val] w fun e w' => ∃ v, e = .returned (.tuple #[zeroD.val, v]) ∧ IsFault w w' v sOperand (op ++ ⟨#[32]⟩ ++ nameOf (Dat.mk k t n f s ro rf rl rc pa pn pc ia iN ic)) ∧ Below w.heap.size w w' := by
  have hn := fun w => name_any (Dat.mk k t n f s ro rf rl rc pa pn pc ia iN ic) w (by simp only; omega)
  have hz := name_size (Dat.mk k t n f s ro rf rl rc pa pn pc ia iN ic)
  generalize nameOf (Dat.mk k t n f s ro rf rl rc pa pn pc ia iN ic) = nm at *
  have hs2 : Hid (op.size + nm.size ≤ 281474976710650) := Lib.hid (by simp only at hz; omega)
  unfold Dat.val at *
  have HN := Lib.hid hn
  clear hn hz hs
  go_enter Tryz.func12, Tryz.ntmps12
  go_wp2_with (first
    | (go_at_call 34; refine (HN.out _).mono ?_; rintro en w2 ⟨rfl, hb⟩
       have R2 : Hid (Row w2 (w.heap.size + 1) 28 zeroC) := (row_atOne w _ 28 zeroC).below hb (by simp)
       have B2 : Hid (Below w.heap.size w w2) := below_more (below2 w _ _) hb (by simp <;> omega)
       clear hb HN)
    | (go_at_call 39; refine (operand2 w2.heap.size _ op nm _ (Row.made w2 _ [.string op, .string nm]) hs2.out).mono ?_
       rintro en w3 ⟨v, rfl, ⟨g, rfl, hg, hr⟩, hb⟩
       have R3 : Hid (Row w3 (w.heap.size + 1) 28 zeroC) := (R2.out.alloc _).below hb (R2.out.alloc _).lt
       have B3 : Hid (Below w.heap.size w w3) := below_more (B2.out.alloc B2.out.size _) hb (by have := B2.out.size; simp <;> omega)
       have hg3 : Hid (w.heap.size + 1 < g) := by have := R2.out.lt; simp at hg; exact Lib.hid (by omega)
       have F3 := Lib.hid hr
       clear hr hb hg B2 R2)
    | (refine put_dat (.tmp 4) (.tmp 66) (w.heap.size + 1) zeroC zeroD.cells _ rfl rfl rfl rfl R3.out rfl rfl rfl ?_; intro w5 hr5 hb5 hf5
       have B5 : Hid (Below w.heap.size w w5) := B3.out.trans (hb5 _ (by omega))
       have R5 := Lib.hid hr5
       have F5 : Hid (Row w5 g 35 _) := (hf5 g (by have := hg3.out; omega)).trans F3.out
       clear B3 R3 hb5 hr5 hf5 F3))
  refine bodyPost_ret (ret_ct rfl _ _ (w.heap.size + 1) _ rfl R5.out rfl) rfl ⟨_, rfl, ⟨g, rfl, by have := hg3.out; omega, F5.out⟩, B5.out⟩
set_option maxRecDepth 200000 in
set_option maxHeartbeats 2000000 in
theorem una_f45 (t s : ByteArray) (n f ro rf rl rc : Int) (pa ia : Option Addr) (pn pc iN ic : Nat) (k : Int) (h1 : (k == 2) = false) (h2 : (k == 3) = false) (w : World) (hs : (⟨#[45]⟩ : ByteArray).size + t.size ≤ 281474976710600) : Calls Tryz.prog 12 #[.string ⟨#[45]⟩, (Dat.mk k t n f s ro rf rl rc pa pn pc ia iN ic).val] w fun e w' => ∃ v, e = .returned (.tuple #[zeroD.val, v]) ∧ IsFault w w' v sOperand ((⟨#[45]⟩ : ByteArray) ++ ⟨#[32]⟩ ++ nameOf (Dat.mk k t n f s ro rf rl rc pa pn pc ia iN ic)) ∧ Below w.heap.size w w' := by
  have hn := fun w => name_any (Dat.mk k t n f s ro rf rl rc pa pn pc ia iN ic) w (by simp only; omega)
  have hz := name_size (Dat.mk k t n f s ro rf rl rc pa pn pc ia iN ic)
  generalize nameOf (Dat.mk k t n f s ro rf rl rc pa pn pc ia iN ic) = nm at *
  have hs2 : Hid ((⟨#[45]⟩ : ByteArray).size + nm.size ≤ 281474976710650) := Lib.hid (by simp only at hz; omega)
  unfold Dat.val at *
  have HN := Lib.hid hn
  clear hn hz hs
  go_enter Tryz.func12, Tryz.ntmps12
  go_wp2_with (first
    | (go_at_call 34; refine (HN.out _).mono ?_; rintro en w2 ⟨rfl, hb⟩
       have R2 : Hid (Row w2 (w.heap.size + 1) 28 zeroC) := (row_atOne w _ 28 zeroC).below hb (by simp)
       have B2 : Hid (Below w.heap.size w w2) := below_more (below2 w _ _) hb (by simp <;> omega)
       clear hb HN)
    | (go_at_call 39; refine (operand2 w2.heap.size _ ⟨#[45]⟩ nm _ (Row.made w2 _ [.string ⟨#[45]⟩, .string nm]) hs2.out).mono ?_
       rintro en w3 ⟨v, rfl, ⟨g, rfl, hg, hr⟩, hb⟩
       have R3 : Hid (Row w3 (w.heap.size + 1) 28 zeroC) := (R2.out.alloc _).below hb (R2.out.alloc _).lt
       have B3 : Hid (Below w.heap.size w w3) := below_more (B2.out.alloc B2.out.size _) hb (by have := B2.out.size; simp <;> omega)
       have hg3 : Hid (w.heap.size + 1 < g) := by have := R2.out.lt; simp at hg; exact Lib.hid (by omega)
       have F3 := Lib.hid hr
       clear hr hb hg B2 R2)
    | (refine put_dat (.tmp 4) (.tmp 66) (w.heap.size + 1) zeroC zeroD.cells _ rfl rfl rfl rfl R3.out rfl rfl rfl ?_; intro w5 hr5 hb5 hf5
       have B5 : Hid (Below w.heap.size w w5) := B3.out.trans (hb5 _ (by omega))
       have R5 := Lib.hid hr5
       have F5 : Hid (Row w5 g 35 _) := (hf5 g (by have := hg3.out; omega)).trans F3.out
       clear B3 R3 hb5 hr5 hf5 F3))
  refine bodyPost_ret (ret_ct rfl _ _ (w.heap.size + 1) _ rfl R5.out rfl) rfl ⟨_, rfl, ⟨g, rfl, by have := hg3.out; omega, F5.out⟩, B5.out⟩
set_option maxRecDepth 200000 in
set_option maxHeartbeats 2000000 in
theorem una_f94 (t s : ByteArray) (n f ro rf rl rc : Int) (pa ia : Option Addr) (pn pc iN ic : Nat) (k : Int) (h1 : (k == 2) = false) (w : World) (hs : (⟨#[94]⟩ : ByteArray).size + t.size ≤ 281474976710600) : Calls Tryz.prog 12 #[.string ⟨#[94]⟩, (Dat.mk k t n f s ro rf rl rc pa pn pc ia iN ic).val] w fun e w' => ∃ v, e = .returned (.tuple #[zeroD.val, v]) ∧ IsFault w w' v sOperand ((⟨#[94]⟩ : ByteArray) ++ ⟨#[32]⟩ ++ nameOf (Dat.mk k t n f s ro rf rl rc pa pn pc ia iN ic)) ∧ Below w.heap.size w w' := by
  have hn := fun w => name_any (Dat.mk k t n f s ro rf rl rc pa pn pc ia iN ic) w (by simp only; omega)
  have hz := name_size (Dat.mk k t n f s ro rf rl rc pa pn pc ia iN ic)
  generalize nameOf (Dat.mk k t n f s ro rf rl rc pa pn pc ia iN ic) = nm at *
  have hs2 : Hid ((⟨#[94]⟩ : ByteArray).size + nm.size ≤ 281474976710650) := Lib.hid (by simp only at hz; omega)
  unfold Dat.val at *
  have HN := Lib.hid hn
  clear hn hz hs
  go_enter Tryz.func12, Tryz.ntmps12
  go_wp2_with (first
    | (go_at_call 34; refine (HN.out _).mono ?_; rintro en w2 ⟨rfl, hb⟩
       have R2 : Hid (Row w2 (w.heap.size + 1) 28 zeroC) := (row_atOne w _ 28 zeroC).below hb (by simp)
       have B2 : Hid (Below w.heap.size w w2) := below_more (below2 w _ _) hb (by simp <;> omega)
       clear hb HN)
    | (go_at_call 39; refine (operand2 w2.heap.size _ ⟨#[94]⟩ nm _ (Row.made w2 _ [.string ⟨#[94]⟩, .string nm]) hs2.out).mono ?_
       rintro en w3 ⟨v, rfl, ⟨g, rfl, hg, hr⟩, hb⟩
       have R3 : Hid (Row w3 (w.heap.size + 1) 28 zeroC) := (R2.out.alloc _).below hb (R2.out.alloc _).lt
       have B3 : Hid (Below w.heap.size w w3) := below_more (B2.out.alloc B2.out.size _) hb (by have := B2.out.size; simp <;> omega)
       have hg3 : Hid (w.heap.size + 1 < g) := by have := R2.out.lt; simp at hg; exact Lib.hid (by omega)
       have F3 := Lib.hid hr
       clear hr hb hg B2 R2)
    | (refine put_dat (.tmp 4) (.tmp 66) (w.heap.size + 1) zeroC zeroD.cells _ rfl rfl rfl rfl R3.out rfl rfl rfl ?_; intro w5 hr5 hb5 hf5
       have B5 : Hid (Below w.heap.size w w5) := B3.out.trans (hb5 _ (by omega))
       have R5 := Lib.hid hr5
       have F5 : Hid (Row w5 g 35 _) := (hf5 g (by have := hg3.out; omega)).trans F3.out
       clear B3 R3 hb5 hr5 hf5 F3))
  refine bodyPost_ret (ret_ct rfl _ _ (w.heap.size + 1) _ rfl R5.out rfl) rfl ⟨_, rfl, ⟨g, rfl, by have := hg3.out; omega, F5.out⟩, B5.out⟩
set_option maxRecDepth 200000 in
set_option maxHeartbeats 2000000 in
theorem una_f33 (t s : ByteArray) (n f ro rf rl rc : Int) (pa ia : Option Addr) (pn pc iN ic : Nat) (k : Int) (h1 : (k == 1) = false) (w : World) (hs : (⟨#[33]⟩ : ByteArray).size + t.size ≤ 281474976710600) : Calls Tryz.prog 12 #[.string ⟨#[33]⟩, (Dat.mk k t n f s ro rf rl rc pa pn pc ia iN ic).val] w fun e w' => ∃ v, e = .returned (.tuple #[zeroD.val, v]) ∧ IsFault w w' v sOperand ((⟨#[33]⟩ : ByteArray) ++ ⟨#[32]⟩ ++ nameOf (Dat.mk k t n f s ro rf rl rc pa pn pc ia iN ic)) ∧ Below w.heap.size w w' := by
  have hn := fun w => name_any (Dat.mk k t n f s ro rf rl rc pa pn pc ia iN ic) w (by simp only; omega)
  have hz := name_size (Dat.mk k t n f s ro rf rl rc pa pn pc ia iN ic)
  generalize nameOf (Dat.mk k t n f s ro rf rl rc pa pn pc ia iN ic) = nm at *
  have hs2 : Hid ((⟨#[33]⟩ : ByteArray).size + nm.size ≤ 281474976710650) := Lib.hid (by simp only at hz; omega)
  unfold Dat.val at *
  have HN := Lib.hid hn
  clear hn hz hs
  go_enter Tryz.func12, Tryz.ntmps12
  go_wp2_with (first
    | (go_at_call 34; refine (HN.out _).mono ?_; rintro en w2 ⟨rfl, hb⟩
       have R2 : Hid (Row w2 (w.heap.size + 1) 28 zeroC) := (row_atOne w _ 28 zeroC).below hb (by simp)
       have B2 : Hid (Below w.heap.size w w2) := below_more (below2 w _ _) hb (by simp <;> omega)
       clear hb HN)
    | (go_at_call 39; refine (operand2 w2.heap.size _ ⟨#[33]⟩ nm _ (Row.made w2 _ [.string ⟨#[33]⟩, .string nm]) hs2.out).mono ?_
       rintro en w3 ⟨v, rfl, ⟨g, rfl, hg, hr⟩, hb⟩
       have R3 : Hid (Row w3 (w.heap.size + 1) 28 zeroC) := (R2.out.alloc _).below hb (R2.out.alloc _).lt
       have B3 : Hid (Below w.heap.size w w3) := below_more (B2.out.alloc B2.out.size _) hb (by have := B2.out.size; simp <;> omega)
       have hg3 : Hid (w.heap.size + 1 < g) := by have := R2.out.lt; simp at hg; exact Lib.hid (by omega)
       have F3 := Lib.hid hr
       clear hr hb hg B2 R2)
    | (refine put_dat (.tmp 4) (.tmp 66) (w.heap.size + 1) zeroC zeroD.cells _ rfl rfl rfl rfl R3.out rfl rfl rfl ?_; intro w5 hr5 hb5 hf5
       have B5 : Hid (Below w.heap.size w w5) := B3.out.trans (hb5 _ (by omega))
       have R5 := Lib.hid hr5
       have F5 : Hid (Row w5 g 35 _) := (hf5 g (by have := hg3.out; omega)).trans F3.out
       clear B3 R3 hb5 hr5 hf5 F3))
  refine bodyPost_ret (ret_ct rfl _ _ (w.heap.size + 1) _ rfl R5.out rfl) rfl ⟨_, rfl, ⟨g, rfl, by have := hg3.out; omega, F5.out⟩, B5.out⟩
end Go.Proofs.YtehakhplglhkdaaGreatDoor
