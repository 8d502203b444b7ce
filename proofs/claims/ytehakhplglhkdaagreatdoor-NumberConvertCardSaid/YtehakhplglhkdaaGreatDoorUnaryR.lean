/- guiseref6.Unary, every operation and every datum (a float's sign apart). Conditions of the fault: the texts are short. -/
import Derived.Test.YtehakhplglhkdaaGreatDoorUnaryA
namespace Go.Proofs.YtehakhplglhkdaaGreatDoor
set_option linter.unusedVariables false
open Go.RowKit

theorem size35 : (Tryz.prog.info? 35).map (·.size) = some 2 := by kernel_rfl
/-- *x = y, x a fault's block that is known whole. -/
theorem put_flt {ops : Array Oper} {rest : List Oper} {o : Oper} {a : Act} {Q : Exit → Act → World → Prop} (x y : Operand) (g : Nat) (old cs : List Value) (w : World)
    (hgd : o.guard = none) (ho : o.op = .store 35 x y) (hx : a.eval x = .pointer (some ⟨g, 0, none⟩)) (hy : a.eval y = .agg cs.toArray)
    (hr : Row w g 35 old) (hl : old.length = 2) (hc : cs.length = 2) (h1 : cs.all (·.oneCell') = true)
    (h : ∀ w', Row w' g 35 cs → (∀ B, B ≤ g → Below B w w') → (∀ k, k ≠ g → w'.heap[k]? = w.heap[k]?) → wpList Tryz.prog ops Q rest (a.put o.dst undef) w') : wpList Tryz.prog ops Q (o :: rest) a w :=
  wpList_store_row hgd 35 x y ho g cs.toArray hx hy 35 old.toArray hr (by rw [size35]; simp [hc]) (by simp [hl, hc]) (by simpa using h1)
    (h _ (hr.turn cs) (fun B hB => below_setRow (Below.refl _ _) hB _) (fun k hk => setRow_far w g k _ hk))
theorem load35 (w : World) (g : Nat) (cs : List Value) (hr : Row w g 35 cs) (hl : cs.length = 2) : (loadVar 35 ⟨g, 0, none⟩).run Tryz.prog w = .ok (.agg cs.toArray) w :=
  run_loadVar_row w g 35 35 cs.toArray (0, 0) _ hr Tryz.underlying35 rfl (by rw [size35]; simp [hl])
theorem ret_cc {fn : Func} {p q : Tmp} (h : fn.results = #[.cell p 28, .cell q 35]) (tmps : Array Value) (w : World) (g : Nat) (cs : List Value) (k : Nat) (ds : List Value) (hp : tmps.getD p undef = .pointer (some ⟨g, 0, none⟩)) (hq : tmps.getD q undef = .pointer (some ⟨k, 0, none⟩)) (hr : Row w g 28 cs) (hs : Row w k 35 ds) (hl : cs.length = 11) (hm : ds.length = 2) :
    (results fn tmps).run Tryz.prog w = .ok (.tuple #[.agg cs.toArray, .agg ds.toArray]) w := by
  have hp' : tmps[p]?.getD undef = .pointer (some ⟨g, 0, none⟩) := by simpa using hp
  have hq' : tmps[q]?.getD undef = .pointer (some ⟨k, 0, none⟩) := by simpa using hq
  simp [results, h, hp', hq', asAddr, Result.andThen, load28 w g cs hr hl, load35 w k ds hs hm]
theorem refname_any (d : Dat) (w : World) (hd : d.t.size ≤ 9223372036854775806) : Calls Tryz.prog 42 #[d.val] w fun e w' => e = .returned (.string (nameOf d)) ∧ Below w.heap.size w w' := by
  unfold Dat.val nameOf
  have hsz : (1 : Int) + (d.t.size : Int) ≤ 9223372036854775807 := by omega
  by_cases h0 : d.k = 0
  · rw [if_pos h0]
    have h0' : (d.k == 0) = true := by simp [h0]
    clear h0
    go_enter Tryz.func42, Tryz.ntmps42
    go_wp2
    go_returns
    exact ⟨rfl, by go_grown⟩
  · rw [if_neg h0]
    have h0' : (d.k == 0) = false := by simp [h0]
    by_cases h9 : d.k = 9
    · rw [if_pos h9]
      have h9' : (d.k == 9) = true := by simp [h9]
      clear h0 h9
      go_enter Tryz.func42, Tryz.ntmps42
      go_wp2
      go_returns
      exact ⟨rfl, by go_grown⟩
    · rw [if_neg h9]
      have h9' : (d.k == 9) = false := by simp [h9]
      clear h0 h9
      go_enter Tryz.func42, Tryz.ntmps42
      go_wp2
      go_returns
      exact ⟨rfl, by go_grown⟩
theorem reffault_any (x y : ByteArray) (w : World) : Calls Tryz.prog 41 #[.string x, .string y] w fun e w' => e = .returned (.agg #[.string x, .string y]) ∧ Below w.heap.size w w' := by
  go_enter Tryz.func41, Tryz.ntmps41
  go_wp2
  go_returns
  exact ⟨rfl, by go_grown⟩
set_option maxRecDepth 200000 in
set_option maxHeartbeats 2000000 in
theorem unr_neg (t s : ByteArray) (n f ro rf rl rc : Int) (pa ia : Option Addr) (pn pc iN ic : Nat) (w : World) : Calls Tryz.prog 13 #[.string ⟨#[45]⟩, (Dat.mk 2 t n f s ro rf rl rc pa pn pc ia iN ic).val] w fun e w' => e = .returned (.tuple #[(mk 2 t (wrap64 (bits BinOp.xor .i64 (-1) n + 1)) 0 ⟨#[]⟩).val, .agg #[.string ⟨#[]⟩, .string ⟨#[]⟩]]) ∧ Below w.heap.size w w' := by
  unfold mk Dat.val
  go_enter Tryz.func13, Tryz.ntmps13
  go_wp2
  go_returns
  exact ⟨rfl, by go_grown⟩
set_option maxRecDepth 200000 in
set_option maxHeartbeats 2000000 in
theorem unr_not (t s : ByteArray) (n f ro rf rl rc : Int) (pa ia : Option Addr) (pn pc iN ic : Nat) (w : World) : Calls Tryz.prog 13 #[.string ⟨#[94]⟩, (Dat.mk 2 t n f s ro rf rl rc pa pn pc ia iN ic).val] w fun e w' => e = .returned (.tuple #[(mk 2 t (wrap64 (-1 - n)) 0 ⟨#[]⟩).val, .agg #[.string ⟨#[]⟩, .string ⟨#[]⟩]]) ∧ Below w.heap.size w w' := by
  unfold mk Dat.val
  go_enter Tryz.func13, Tryz.ntmps13
  go_wp2
  go_returns
  exact ⟨rfl, by go_grown⟩
set_option maxRecDepth 200000 in
set_option maxHeartbeats 2000000 in
theorem unr_bang1 (t s : ByteArray) (n f ro rf rl rc : Int) (pa ia : Option Addr) (pn pc iN ic : Nat) (h0 : (n == 0) = true) (w : World) : Calls Tryz.prog 13 #[.string ⟨#[33]⟩, (Dat.mk 1 t n f s ro rf rl rc pa pn pc ia iN ic).val] w fun e w' => e = .returned (.tuple #[(mk 1 t 1 0 ⟨#[]⟩).val, .agg #[.string ⟨#[]⟩, .string ⟨#[]⟩]]) ∧ Below w.heap.size w w' := by
  unfold mk Dat.val
  go_enter Tryz.func13, Tryz.ntmps13
  go_wp2
  go_returns
  exact ⟨rfl, by go_grown⟩
set_option maxRecDepth 200000 in
set_option maxHeartbeats 2000000 in
theorem unr_bang0 (t s : ByteArray) (n f ro rf rl rc : Int) (pa ia : Option Addr) (pn pc iN ic : Nat) (h0 : (n == 0) = false) (w : World) : Calls Tryz.prog 13 #[.string ⟨#[33]⟩, (Dat.mk 1 t n f s ro rf rl rc pa pn pc ia iN ic).val] w fun e w' => e = .returned (.tuple #[(mk 1 t 0 0 ⟨#[]⟩).val, .agg #[.string ⟨#[]⟩, .string ⟨#[]⟩]]) ∧ Below w.heap.size w w' := by
  unfold mk Dat.val
  go_enter Tryz.func13, Tryz.ntmps13
  go_wp2
  go_returns
  exact ⟨rfl, by go_grown⟩
set_option maxRecDepth 200000 in
set_option maxHeartbeats 2000000 in
theorem unr_f0 (op : ByteArray) (t s : ByteArray) (n f ro rf rl rc : Int) (pa ia : Option Addr) (pn pc iN ic : Nat) (k : Int) (h1 : (op.toList == [45]) = false) (h2 : (op.toList == [94]) = false) (h3 : (op.toList == [33]) = false) (w : World) (hs : op.size + t.size ≤ 281474976710600) : Calls Tryz.prog 13 #[.string op, (Dat.mk k t n f s ro rf rl rc pa pn pc ia iN ic).val] w fun e w' => e = .returned (.tuple #[zeroD.val, .agg #[.string sOperand, .string (op ++ ⟨#[32]⟩ ++ nameOf (Dat.mk k t n f s ro rf rl rc pa pn pc ia iN ic))]]) ∧ Below w.heap.size w w' := by
  have hn := fun w => refname_any (Dat.mk k t n f s ro rf rl rc pa pn pc ia iN ic) w (by simp only; omega)
  have hz := name_size (Dat.mk k t n f s ro rf rl rc pa pn pc ia iN ic)
  generalize nameOf (Dat.mk k t n f s ro rf rl rc pa pn pc ia iN ic) = nm at *
  have hs2 : (op.size : Int) + 1 ≤ 9223372036854775807 := by simp only at hz; omega
  have hs3 : ((op ++ ⟨#[32]⟩ : ByteArray).size : Int) + (nm.size : Int) ≤ 9223372036854775807 := by rw [ByteArray.size_append]; simp only at hz; show ((op.size + 1 : Nat) : Int) + _ ≤ _; omega
  unfold Dat.val at *
  have HN := Lib.hid hn
  clear hn hz hs
  go_enter Tryz.func13, Tryz.ntmps13
  go_wp2_with (first
    | (go_at_call 42; refine (HN.out _).mono ?_; rintro en w2 ⟨rfl, hb⟩
       have R2 : Hid (Row w2 (w.heap.size + 1) 28 zeroC) := (((row_atOne w _ 28 zeroC).alloc _).alloc _).below hb (by simp <;> omega)
       have S2 : Hid (Row w2 (w.heap.size + 1 + 1) 35 [.string ⟨#[]⟩, .string ⟨#[]⟩]) := ((row_at2 w _ _ 35 [.string ⟨#[]⟩, .string ⟨#[]⟩]).alloc _).below hb (by simp <;> omega)
       have B2 : Hid (Below w.heap.size w w2) := below_more (below4 w _ _ _ _) hb (by simp <;> omega)
       clear hb HN)
    | (go_at_call 41; refine (reffault_any _ _ _).mono ?_; rintro en w3 ⟨rfl, hb⟩
       have R3 : Hid (Row w3 (w.heap.size + 1) 28 zeroC) := R2.out.below hb R2.out.lt
       have S3 : Hid (Row w3 (w.heap.size + 1 + 1) 35 [.string ⟨#[]⟩, .string ⟨#[]⟩]) := S2.out.below hb S2.out.lt
       have B3 : Hid (Below w.heap.size w w3) := below_more B2.out hb B2.out.size
       clear hb B2 R2 S2)
    | (refine put_dat (.tmp 4) (.tmp 12) (w.heap.size + 1) zeroC zeroD.cells _ rfl rfl rfl rfl R3.out rfl rfl rfl ?_; intro w5 hr5 hb5 hf5
       have B5 : Hid (Below w.heap.size w w5) := B3.out.trans (hb5 _ (by omega))
       have R5 := Lib.hid hr5
       have S5 : Hid (Row w5 (w.heap.size + 1 + 1) 35 [.string ⟨#[]⟩, .string ⟨#[]⟩]) := (hf5 _ (by omega)).trans S3.out
       clear B3 R3 hb5 hr5 hf5 S3)
    | (refine put_flt (.tmp 5) (.tmp 18) (w.heap.size + 1 + 1) _ _ _ rfl rfl rfl rfl S5.out rfl rfl rfl ?_; intro w6 hr6 hb6 hf6
       have B6 : Hid (Below w.heap.size w w6) := B5.out.trans (hb6 _ (by omega))
       have S6 := Lib.hid hr6
       have R6 : Hid (Row w6 (w.heap.size + 1) 28 zeroD.cells) := (hf6 _ (by omega)).trans R5.out
       clear B5 R5 S5 hb6 hr6 hf6))
  exact bodyPost_ret (ret_cc rfl _ _ (w.heap.size + 1) _ (w.heap.size + 1 + 1) _ rfl rfl R6.out S6.out rfl rfl) rfl ⟨rfl, B6.out⟩
set_option maxRecDepth 200000 in
set_option maxHeartbeats 2000000 in
theorem unr_f45 (t s : ByteArray) (n f ro rf rl rc : Int) (pa ia : Option Addr) (pn pc iN ic : Nat) (k : Int) (h1 : (k == 2) = false) (h2 : (k == 3) = false) (w : World) (hs : (⟨#[45]⟩ : ByteArray).size + t.size ≤ 281474976710600) : Calls Tryz.prog 13 #[.string ⟨#[45]⟩, (Dat.mk k t n f s ro rf rl rc pa pn pc ia iN ic).val] w fun e w' => e = .returned (.tuple #[zeroD.val, .agg #[.string sOperand, .string ((⟨#[45]⟩ : ByteArray) ++ ⟨#[32]⟩ ++ nameOf (Dat.mk k t n f s ro rf rl rc pa pn pc ia iN ic))]]) ∧ Below w.heap.size w w' := by
  have hn := fun w => refname_any (Dat.mk k t n f s ro rf rl rc pa pn pc ia iN ic) w (by simp only; omega)
  have hz := name_size (Dat.mk k t n f s ro rf rl rc pa pn pc ia iN ic)
  generalize nameOf (Dat.mk k t n f s ro rf rl rc pa pn pc ia iN ic) = nm at *
  have hs2 : ((⟨#[45]⟩ : ByteArray).size : Int) + 1 ≤ 9223372036854775807 := by simp only at hz; omega
  have hs3 : (((⟨#[45]⟩ : ByteArray) ++ ⟨#[32]⟩ : ByteArray).size : Int) + (nm.size : Int) ≤ 9223372036854775807 := by rw [ByteArray.size_append]; simp only at hz; show (((⟨#[45]⟩ : ByteArray).size + 1 : Nat) : Int) + _ ≤ _; omega
  unfold Dat.val at *
  have HN := Lib.hid hn
  clear hn hz hs
  go_enter Tryz.func13, Tryz.ntmps13
  go_wp2_with (first
    | (go_at_call 42; refine (HN.out _).mono ?_; rintro en w2 ⟨rfl, hb⟩
       have R2 : Hid (Row w2 (w.heap.size + 1) 28 zeroC) := (((row_atOne w _ 28 zeroC).alloc _).alloc _).below hb (by simp <;> omega)
       have S2 : Hid (Row w2 (w.heap.size + 1 + 1) 35 [.string ⟨#[]⟩, .string ⟨#[]⟩]) := ((row_at2 w _ _ 35 [.string ⟨#[]⟩, .string ⟨#[]⟩]).alloc _).below hb (by simp <;> omega)
       have B2 : Hid (Below w.heap.size w w2) := below_more (below4 w _ _ _ _) hb (by simp <;> omega)
       clear hb HN)
    | (go_at_call 41; refine (reffault_any _ _ _).mono ?_; rintro en w3 ⟨rfl, hb⟩
       have R3 : Hid (Row w3 (w.heap.size + 1) 28 zeroC) := R2.out.below hb R2.out.lt
       have S3 : Hid (Row w3 (w.heap.size + 1 + 1) 35 [.string ⟨#[]⟩, .string ⟨#[]⟩]) := S2.out.below hb S2.out.lt
       have B3 : Hid (Below w.heap.size w w3) := below_more B2.out hb B2.out.size
       clear hb B2 R2 S2)
    | (refine put_dat (.tmp 4) (.tmp 12) (w.heap.size + 1) zeroC zeroD.cells _ rfl rfl rfl rfl R3.out rfl rfl rfl ?_; intro w5 hr5 hb5 hf5
       have B5 : Hid (Below w.heap.size w w5) := B3.out.trans (hb5 _ (by omega))
       have R5 := Lib.hid hr5
       have S5 : Hid (Row w5 (w.heap.size + 1 + 1) 35 [.string ⟨#[]⟩, .string ⟨#[]⟩]) := (hf5 _ (by omega)).trans S3.out
       clear B3 R3 hb5 hr5 hf5 S3)
    | (refine put_flt (.tmp 5) (.tmp 18) (w.heap.size + 1 + 1) _ _ _ rfl rfl rfl rfl S5.out rfl rfl rfl ?_; intro w6 hr6 hb6 hf6
       have B6 : Hid (Below w.heap.size w w6) := B5.out.trans (hb6 _ (by omega))
       have S6 := Lib.hid hr6
       have R6 : Hid (Row w6 (w.heap.size + 1) 28 zeroD.cells) := (hf6 _ (by omega)).trans R5.out
       clear B5 R5 S5 hb6 hr6 hf6))
  exact bodyPost_ret (ret_cc rfl _ _ (w.heap.size + 1) _ (w.heap.size + 1 + 1) _ rfl rfl R6.out S6.out rfl rfl) rfl ⟨rfl, B6.out⟩
set_option maxRecDepth 200000 in
set_option maxHeartbeats 2000000 in
theorem unr_f94 (t s : ByteArray) (n f ro rf rl rc : Int) (pa ia : Option Addr) (pn pc iN ic : Nat) (k : Int) (h1 : (k == 2) = false) (w : World) (hs : (⟨#[94]⟩ : ByteArray).size + t.size ≤ 281474976710600) : Calls Tryz.prog 13 #[.string ⟨#[94]⟩, (Dat.mk k t n f s ro rf rl rc pa pn pc ia iN ic).val] w fun e w' => e = .returned (.tuple #[zeroD.val, .agg #[.string sOperand, .string ((⟨#[94]⟩ : ByteArray) ++ ⟨#[32]⟩ ++ nameOf (Dat.mk k t n f s ro rf rl rc pa pn pc ia iN ic))]]) ∧ Below w.heap.size w w' := by
  have hn := fun w => refname_any (Dat.mk k t n f s ro rf rl rc pa pn pc ia iN ic) w (by simp only; omega)
  have hz := name_size (Dat.mk k t n f s ro rf rl rc pa pn pc ia iN ic)
  generalize nameOf (Dat.mk k t n f s ro rf rl rc pa pn pc ia iN ic) = nm at *
  have hs2 : ((⟨#[94]⟩ : ByteArray).size : Int) + 1 ≤ 9223372036854775807 := by simp only at hz; omega
  have hs3 : (((⟨#[94]⟩ : ByteArray) ++ ⟨#[32]⟩ : ByteArray).size : Int) + (nm.size : Int) ≤ 9223372036854775807 := by rw [ByteArray.size_append]; simp only at hz; show (((⟨#[94]⟩ : ByteArray).size + 1 : Nat) : Int) + _ ≤ _; omega
  unfold Dat.val at *
  have HN := Lib.hid hn
  clear hn hz hs
  go_enter Tryz.func13, Tryz.ntmps13
  go_wp2_with (first
    | (go_at_call 42; refine (HN.out _).mono ?_; rintro en w2 ⟨rfl, hb⟩
       have R2 : Hid (Row w2 (w.heap.size + 1) 28 zeroC) := (((row_atOne w _ 28 zeroC).alloc _).alloc _).below hb (by simp <;> omega)
       have S2 : Hid (Row w2 (w.heap.size + 1 + 1) 35 [.string ⟨#[]⟩, .string ⟨#[]⟩]) := ((row_at2 w _ _ 35 [.string ⟨#[]⟩, .string ⟨#[]⟩]).alloc _).below hb (by simp <;> omega)
       have B2 : Hid (Below w.heap.size w w2) := below_more (below4 w _ _ _ _) hb (by simp <;> omega)
       clear hb HN)
    | (go_at_call 41; refine (reffault_any _ _ _).mono ?_; rintro en w3 ⟨rfl, hb⟩
       have R3 : Hid (Row w3 (w.heap.size + 1) 28 zeroC) := R2.out.below hb R2.out.lt
       have S3 : Hid (Row w3 (w.heap.size + 1 + 1) 35 [.string ⟨#[]⟩, .string ⟨#[]⟩]) := S2.out.below hb S2.out.lt
       have B3 : Hid (Below w.heap.size w w3) := below_more B2.out hb B2.out.size
       clear hb B2 R2 S2)
    | (refine put_dat (.tmp 4) (.tmp 12) (w.heap.size + 1) zeroC zeroD.cells _ rfl rfl rfl rfl R3.out rfl rfl rfl ?_; intro w5 hr5 hb5 hf5
       have B5 : Hid (Below w.heap.size w w5) := B3.out.trans (hb5 _ (by omega))
       have R5 := Lib.hid hr5
       have S5 : Hid (Row w5 (w.heap.size + 1 + 1) 35 [.string ⟨#[]⟩, .string ⟨#[]⟩]) := (hf5 _ (by omega)).trans S3.out
       clear B3 R3 hb5 hr5 hf5 S3)
    | (refine put_flt (.tmp 5) (.tmp 18) (w.heap.size + 1 + 1) _ _ _ rfl rfl rfl rfl S5.out rfl rfl rfl ?_; intro w6 hr6 hb6 hf6
       have B6 : Hid (Below w.heap.size w w6) := B5.out.trans (hb6 _ (by omega))
       have S6 := Lib.hid hr6
       have R6 : Hid (Row w6 (w.heap.size + 1) 28 zeroD.cells) := (hf6 _ (by omega)).trans R5.out
       clear B5 R5 S5 hb6 hr6 hf6))
  exact bodyPost_ret (ret_cc rfl _ _ (w.heap.size + 1) _ (w.heap.size + 1 + 1) _ rfl rfl R6.out S6.out rfl rfl) rfl ⟨rfl, B6.out⟩
set_option maxRecDepth 200000 in
set_option maxHeartbeats 2000000 in
theorem unr_f33 (t s : ByteArray) (n f ro rf rl rc : Int) (pa ia : Option Addr) (pn pc iN ic : Nat) (k : Int) (h1 : (k == 1) = false) (w : World) (hs : (⟨#[33]⟩ : ByteArray).size + t.size ≤ 281474976710600) : Calls Tryz.prog 13 #[.string ⟨#[33]⟩, (Dat.mk k t n f s ro rf rl rc pa pn pc ia iN ic).val] w fun e w' => e = .returned (.tuple #[zeroD.val, .agg #[.string sOperand, .string ((⟨#[33]⟩ : ByteArray) ++ ⟨#[32]⟩ ++ nameOf (Dat.mk k t n f s ro rf rl rc pa pn pc ia iN ic))]]) ∧ Below w.heap.size w w' := by
  have hn := fun w => refname_any (Dat.mk k t n f s ro rf rl rc pa pn pc ia iN ic) w (by simp only; omega)
  have hz := name_size (Dat.mk k t n f s ro rf rl rc pa pn pc ia iN ic)
  generalize nameOf (Dat.mk k t n f s ro rf rl rc pa pn pc ia iN ic) = nm at *
  have hs2 : ((⟨#[33]⟩ : ByteArray).size : Int) + 1 ≤ 9223372036854775807 := by simp only at hz; omega
  have hs3 : (((⟨#[33]⟩ : ByteArray) ++ ⟨#[32]⟩ : ByteArray).size : Int) + (nm.size : Int) ≤ 9223372036854775807 := by rw [ByteArray.size_append]; simp only at hz; show (((⟨#[33]⟩ : ByteArray).size + 1 : Nat) : Int) + _ ≤ _; omega
  unfold Dat.val at *
  have HN := Lib.hid hn
  clear hn hz hs
  go_enter Tryz.func13, Tryz.ntmps13
  go_wp2_with (first
    | (go_at_call 42; refine (HN.out _).mono ?_; rintro en w2 ⟨rfl, hb⟩
       have R2 : Hid (Row w2 (w.heap.size + 1) 28 zeroC) := (((row_atOne w _ 28 zeroC).alloc _).alloc _).below hb (by simp <;> omega)
       have S2 : Hid (Row w2 (w.heap.size + 1 + 1) 35 [.string ⟨#[]⟩, .string ⟨#[]⟩]) := ((row_at2 w _ _ 35 [.string ⟨#[]⟩, .string ⟨#[]⟩]).alloc _).below hb (by simp <;> omega)
       have B2 : Hid (Below w.heap.size w w2) := below_more (below4 w _ _ _ _) hb (by simp <;> omega)
       clear hb HN)
    | (go_at_call 41; refine (reffault_any _ _ _).mono ?_; rintro en w3 ⟨rfl, hb⟩
       have R3 : Hid (Row w3 (w.heap.size + 1) 28 zeroC) := R2.out.below hb R2.out.lt
       have S3 : Hid (Row w3 (w.heap.size + 1 + 1) 35 [.string ⟨#[]⟩, .string ⟨#[]⟩]) := S2.out.below hb S2.out.lt
       have B3 : Hid (Below w.heap.size w w3) := below_more B2.out hb B2.out.size
       clear hb B2 R2 S2)
    | (refine put_dat (.tmp 4) (.tmp 12) (w.heap.size + 1) zeroC zeroD.cells _ rfl rfl rfl rfl R3.out rfl rfl rfl ?_; intro w5 hr5 hb5 hf5
       have B5 : Hid (Below w.heap.size w w5) := B3.out.trans (hb5 _ (by omega))
       have R5 := Lib.hid hr5
       have S5 : Hid (Row w5 (w.heap.size + 1 + 1) 35 [.string ⟨#[]⟩, .string ⟨#[]⟩]) := (hf5 _ (by omega)).trans S3.out
       clear B3 R3 hb5 hr5 hf5 S3)
    | (refine put_flt (.tmp 5) (.tmp 18) (w.heap.size + 1 + 1) _ _ _ rfl rfl rfl rfl S5.out rfl rfl rfl ?_; intro w6 hr6 hb6 hf6
       have B6 : Hid (Below w.heap.size w w6) := B5.out.trans (hb6 _ (by omega))
       have S6 := Lib.hid hr6
       have R6 : Hid (Row w6 (w.heap.size + 1) 28 zeroD.cells) := (hf6 _ (by omega)).trans R5.out
       clear B5 R5 S5 hb6 hr6 hf6))
  exact bodyPost_ret (ret_cc rfl _ _ (w.heap.size + 1) _ (w.heap.size + 1 + 1) _ rfl rfl R6.out S6.out rfl rfl) rfl ⟨rfl, B6.out⟩
end Go.Proofs.YtehakhplglhkdaaGreatDoor
