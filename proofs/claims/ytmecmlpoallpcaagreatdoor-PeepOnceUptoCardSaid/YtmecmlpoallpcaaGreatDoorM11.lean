/- Texts of this proof, put together: NumA, ValA. -/
import Derived.Test.YtmecmlpoallpcaaGreatDoorM10
import Derived.Test.YtmecmlpoallpcaaGreatDoorM08
import Derived.Test.YtmecmlpoallpcaaGreatDoorM09
import Derived.Deep.QuietTactic
import Derived.BigQuiet
import Derived.LaidEqlPtr
set_option linter.unusedSimpArgs false
/- Data, number.Unary of ints and flags, the fault of an operand. (Printed by gen_peepnum.py out of the Number seat's texts.) -/
namespace Go.Proofs.YtmecmlpoallpcaaGreatDoor
set_option linter.unusedVariables false
open Go.RowKit

theorem below2 (w : World) (A B : Obj) : Below w.heap.size w ((w.alloc A).alloc B) := (below1 w A).alloc (by simp) _
theorem below3 (w : World) (A B C : Obj) : Below w.heap.size w (((w.alloc A).alloc B).alloc C) := (below2 w A B).alloc (by simp; omega) _
theorem below4 (w : World) (A B C D : Obj) : Below w.heap.size w ((((w.alloc A).alloc B).alloc C).alloc D) := (below3 w A B C).alloc (by simp; omega) _
theorem below5 (w : World) (A B C D E : Obj) : Below w.heap.size w (((((w.alloc A).alloc B).alloc C).alloc D).alloc E) := (below4 w A B C D).alloc (by simp; omega) _
theorem row11 {w : World} {g : Nat} {t : TypeId} {v0 v1 v2 v3 v4 v5 v6 v7 v8 v9 v10 : Value} (h : Row w g t [v0, v1, v2, v3, v4, v5, v6, v7, v8, v9, v10]) :
    w.cell? ⟨g, 0, none⟩ = some v0 ∧ w.cell? ⟨g, 1, none⟩ = some v1 ∧ w.cell? ⟨g, 2, none⟩ = some v2 ∧ w.cell? ⟨g, 3, none⟩ = some v3 ∧ w.cell? ⟨g, 4, none⟩ = some v4 ∧ w.cell? ⟨g, 5, none⟩ = some v5 ∧ w.cell? ⟨g, 6, none⟩ = some v6 ∧ w.cell? ⟨g, 7, none⟩ = some v7 ∧ w.cell? ⟨g, 8, none⟩ = some v8 ∧ w.cell? ⟨g, 9, none⟩ = some v9 ∧ w.cell? ⟨g, 10, none⟩ = some v10 ∧ ∀ j, w.frozen? ⟨g, j, none⟩ = false :=
  ⟨h.cell 0, h.cell 1, h.cell 2, h.cell 3, h.cell 4, h.cell 5, h.cell 6, h.cell 7, h.cell 8, h.cell 9, h.cell 10, h.free⟩
def zeroC : List Value := [.int .i64 0, .string ⟨#[]⟩, .int .i64 0, .int .u64 0, .string ⟨#[]⟩, .int .i64 0, .int .i64 0, .int .i64 0, .int .i64 0, .slice none 0 0, .slice none 0 0]
structure Dat where
  k : Int
  t : ByteArray
  n : Int
  f : Int
  s : ByteArray
  ro : Int
  rf : Int
  rl : Int
  rc : Int
  pa : Option Addr
  pn : Nat
  pc : Nat
  ia : Option Addr
  iN : Nat
  ic : Nat
def Dat.val (d : Dat) : Value := .agg #[.int .i64 d.k, .string d.t, .int .i64 d.n, .int .u64 d.f, .string d.s, .int .i64 d.ro, .int .i64 d.rf, .int .i64 d.rl, .int .i64 d.rc, .slice d.pa d.pn d.pc, .slice d.ia d.iN d.ic]
def mk (k : Int) (t : ByteArray) (n f : Int) (s : ByteArray) : Dat := ⟨k, t, n, f, s, 0, 0, 0, 0, none, 0, 0, none, 0, 0⟩
def sBool : ByteArray := ⟨#[98, 111, 111, 108]⟩
theorem whole_any (t : ByteArray) (n : Int) (w : World) : Calls Tryz.prog 147 #[.string t, .int .i64 n] w fun e w' => e = .returned (mk 2 t n 0 ⟨#[]⟩).val ∧ Below w.heap.size w w' := by
  go_enter Tryz.func147, Tryz.ntmps147
  go_wp2
  go_returns
  exact ⟨rfl, by go_grown⟩
theorem boolean_any (t : Bool) (w : World) : Calls Tryz.prog 150 #[.bool t] w fun e w' => e = .returned (mk 1 sBool (if t then 1 else 0) 0 ⟨#[]⟩).val ∧ Below w.heap.size w w' := by
  cases t <;>
  · go_enter Tryz.func150, Tryz.ntmps150
    go_wp2
    go_returns
    exact ⟨rfl, by go_grown⟩
theorem fault_any (x y : ByteArray) (w : World) : Calls Tryz.prog 184 #[.string x, .string y] w fun e w' => ∃ g, e = .returned (.iface 209 (.pointer (some ⟨g, 0, none⟩))) ∧ w.heap.size ≤ g ∧ Row w' g 139 [.string x, .string y] ∧ Below w.heap.size w w' := by
  go_enter Tryz.func184, Tryz.ntmps184
  go_wp2
  go_returns
  exact ⟨w.heap.size, rfl, Nat.le_refl _, Row.made _ _ _, by go_grown⟩
def nameOf (d : Dat) : ByteArray := if d.k = 0 then ⟨#[110, 105, 108]⟩ else if d.k = 9 then ⟨#[42]⟩ ++ d.t else d.t
theorem name_any (d : Dat) (w : World) (hd : d.t.size ≤ 9223372036854775806) : Calls Tryz.prog 152 #[d.val] w fun e w' => e = .returned (.string (nameOf d)) ∧ Below w.heap.size w w' := by
  unfold Dat.val nameOf
  have hsz : (1 : Int) + (d.t.size : Int) ≤ 9223372036854775807 := by omega
  by_cases h0 : d.k = 0
  · rw [if_pos h0]
    have h0' : (d.k == 0) = true := by simp [h0]
    clear h0
    go_enter Tryz.func152, Tryz.ntmps152
    go_wp2
    go_returns
    exact ⟨rfl, by go_grown⟩
  · rw [if_neg h0]
    have h0' : (d.k == 0) = false := by simp [h0]
    by_cases h9 : d.k = 9
    · rw [if_pos h9]
      have h9' : (d.k == 9) = true := by simp [h9]
      clear h0 h9
      go_enter Tryz.func152, Tryz.ntmps152
      go_wp2
      go_returns
      exact ⟨rfl, by go_grown⟩
    · rw [if_neg h9]
      have h9' : (d.k == 9) = false := by simp [h9]
      clear h0 h9
      go_enter Tryz.func152, Tryz.ntmps152
      go_wp2
      go_returns
      exact ⟨rfl, by go_grown⟩
theorem size131 : (Tryz.prog.info? 131).map (·.size) = some 11 := by kernel_rfl
theorem under131 : ∃ fs, Tryz.prog.underlying 131 = some (.struct fs) := ⟨_, Tryz.underlying131⟩
def Dat.cells (d : Dat) : List Value := [.int .i64 d.k, .string d.t, .int .i64 d.n, .int .u64 d.f, .string d.s, .int .i64 d.ro, .int .i64 d.rf, .int .i64 d.rl, .int .i64 d.rc, .slice d.pa d.pn d.pc, .slice d.ia d.iN d.ic]
theorem val_cells (d : Dat) : d.val = .agg d.cells.toArray := rfl
theorem put_dat {ops : Array Oper} {rest : List Oper} {o : Oper} {a : Act} {Q : Exit → Act → World → Prop} (x y : Operand) (g : Nat) (old cs : List Value) (w : World)
    (hgd : o.guard = none) (ho : o.op = .store 131 x y) (hx : a.eval x = .pointer (some ⟨g, 0, none⟩)) (hy : a.eval y = .agg cs.toArray)
    (hr : Row w g 131 old) (hl : old.length = 11) (hc : cs.length = 11) (h1 : cs.all (·.oneCell') = true)
    (h : ∀ w', Row w' g 131 cs → (∀ B, B ≤ g → Below B w w') → (∀ k, k ≠ g → w'.heap[k]? = w.heap[k]?) → wpList Tryz.prog ops Q rest (a.put o.dst undef) w') : wpList Tryz.prog ops Q (o :: rest) a w :=
  wpList_store_row hgd 131 x y ho g cs.toArray hx hy 131 old.toArray hr (by rw [size131]; simp [hc]) (by simp [hl, hc]) (by simpa using h1)
    (h _ (hr.turn cs) (fun B hB => below_setRow (Below.refl _ _) hB _) (fun k hk => setRow_far w g k _ hk))
theorem load131 (w : World) (g : Nat) (cs : List Value) (hr : Row w g 131 cs) (hl : cs.length = 11) : (loadVar 131 ⟨g, 0, none⟩).run Tryz.prog w = .ok (.agg cs.toArray) w :=
  run_loadVar_row w g 131 131 cs.toArray (0, 0) _ hr Tryz.underlying131 rfl (by rw [size131]; simp [hl])
theorem ret_c {fn : Func} {p : Tmp} (h : fn.results = #[.cell p 131]) (tmps : Array Value) (w : World) (g : Nat) (cs : List Value) (hp : tmps.getD p undef = .pointer (some ⟨g, 0, none⟩)) (hr : Row w g 131 cs) (hl : cs.length = 11) :
    (results fn tmps).run Tryz.prog w = .ok (.agg cs.toArray) w :=
  results_cell_row h tmps w g 131 cs.toArray (0, 0) _ hp hr Tryz.underlying131 rfl (by rw [size131]; simp [hl])
theorem ret_ct {fn : Func} {p u : Tmp} (h : fn.results = #[.cell p 131, .tmp u]) (tmps : Array Value) (w : World) (g : Nat) (cs : List Value) (hp : tmps.getD p undef = .pointer (some ⟨g, 0, none⟩)) (hr : Row w g 131 cs) (hl : cs.length = 11) :
    (results fn tmps).run Tryz.prog w = .ok (.tuple #[.agg cs.toArray, tmps.getD u undef]) w := by
  rw [results_cell_tmp h, hp]
  simp [asAddr, Result.andThen, load131 w g cs hr hl]
theorem ret_ctt {fn : Func} {p u v : Tmp} (h : fn.results = #[.cell p 131, .tmp u, .tmp v]) (tmps : Array Value) (w : World) (g : Nat) (cs : List Value) (hp : tmps.getD p undef = .pointer (some ⟨g, 0, none⟩)) (hr : Row w g 131 cs) (hl : cs.length = 11) :
    (results fn tmps).run Tryz.prog w = .ok (.tuple #[.agg cs.toArray, tmps.getD u undef, tmps.getD v undef]) w := by
  have hp' : tmps[p]?.getD undef = .pointer (some ⟨g, 0, none⟩) := by simpa using hp
  simp [results, h, hp', asAddr, Result.andThen, load131 w g cs hr hl]
theorem row_at2 (w : World) (A B : Obj) (t : TypeId) (cs : List Value) : Row (((w.alloc A).alloc B).alloc (.cells cs.toArray t)) (w.heap.size + 1 + 1) t cs := by
  have := Row.made ((w.alloc A).alloc B) t cs
  simpa using this
theorem row_at3 (w : World) (A B C : Obj) (t : TypeId) (cs : List Value) : Row ((((w.alloc A).alloc B).alloc C).alloc (.cells cs.toArray t)) (w.heap.size + 1 + 1 + 1) t cs := by
  have := Row.made (((w.alloc A).alloc B).alloc C) t cs
  simpa using this
def zeroD : Dat := mk 0 ⟨#[]⟩ 0 0 ⟨#[]⟩
def IsFault (w w' : World) (v : Value) (x y : ByteArray) : Prop := ∃ g, v = .iface 209 (.pointer (some ⟨g, 0, none⟩)) ∧ w.heap.size ≤ g ∧ Row w' g 139 [.string x, .string y]
def sOperand : ByteArray := ⟨#[111, 112, 101, 114, 97, 110, 100]⟩
theorem join2 (x y : ByteArray) : (⟨(Lib.join ([x, y].map (·.data.toList)) (⟨#[32]⟩ : ByteArray).data.toList).toArray⟩ : ByteArray) = x ++ ⟨#[32]⟩ ++ y := by
  apply ByteArray.ext
  simp [Lib.join_cons, Lib.joinTail]
theorem join3 (x y z : ByteArray) : (⟨(Lib.join ([x, y, z].map (·.data.toList)) (⟨#[32]⟩ : ByteArray).data.toList).toArray⟩ : ByteArray) = x ++ ⟨#[32]⟩ ++ y ++ ⟨#[32]⟩ ++ z := by
  apply ByteArray.ext
  simp [Lib.join_cons, Lib.joinTail]
theorem operand2 (A : Nat) (ty : TypeId) (x y : ByteArray) (w : World) (h : Row w A ty [.string x, .string y]) (hs : x.size + y.size ≤ 4000000) :
    Calls Tryz.prog 151 #[.slice (some ⟨A, 0, none⟩) 2 2] w fun e w' => ∃ v, e = .returned v ∧ IsFault w w' v sOperand (x ++ ⟨#[32]⟩ ++ y) ∧ Below w.heap.size w w' := by
  have hj := Tryz.strings_Join A 0 2 [x, y] ⟨#[32]⟩ w (fun j u hu => by
    have hc := h.cell j
    rw [Nat.zero_add, hc]
    rcases j with _ | _ | j <;> simp at hu ⊢ <;> exact hu) h.lt (by simp) (by simp) (by
      have e1 : x.size = x.data.size := rfl
      have e2 : y.size = y.data.size := rfl
      simp [Lib.join_cons, Lib.joinTail]; omega)
  rw [join2] at hj
  generalize x ++ ⟨#[32]⟩ ++ y = m at *
  have HJ : Hid (Calls Tryz.prog 185 #[.slice (some ⟨A, 0, none⟩) 2 2, .string ⟨#[32]⟩] w fun e w' => e = .returned (.string m) ∧ Below w.heap.size w w') := hj
  clear hj h hs
  go_enter Tryz.func151, Tryz.ntmps151
  go_wp2_with (first
    | (go_at_call 185; refine HJ.out.mono ?_; rintro en w2 ⟨rfl, hb⟩; have B2 := Lib.hid hb; clear hb HJ)
    | (go_at_call 184; refine (fault_any _ _ _).mono ?_; rintro en w3 ⟨g, rfl, hg, hr, hb⟩
       have B3 : Hid (Below w.heap.size w w3) := below_more B2.out hb B2.out.size
       have hg3 : Hid (w.heap.size ≤ g) := Nat.le_trans B2.out.size hg
       have F3 := Lib.hid hr
       clear hr hb hg B2))
  go_returns
  exact ⟨_, rfl, ⟨g, rfl, hg3.out, F3.out⟩, B3.out⟩
theorem operand3 (A : Nat) (ty : TypeId) (x y z : ByteArray) (w : World) (h : Row w A ty [.string x, .string y, .string z]) (hs : x.size + y.size + z.size ≤ 4000000) :
    Calls Tryz.prog 151 #[.slice (some ⟨A, 0, none⟩) 3 3] w fun e w' => ∃ v, e = .returned v ∧ IsFault w w' v sOperand (x ++ ⟨#[32]⟩ ++ y ++ ⟨#[32]⟩ ++ z) ∧ Below w.heap.size w w' := by
  have hj := Tryz.strings_Join A 0 3 [x, y, z] ⟨#[32]⟩ w (fun j u hu => by
    have hc := h.cell j
    rw [Nat.zero_add, hc]
    rcases j with _ | _ | _ | j <;> simp at hu ⊢ <;> exact hu) h.lt (by simp) (by simp) (by
      have e1 : x.size = x.data.size := rfl
      have e2 : y.size = y.data.size := rfl
      have e3 : z.size = z.data.size := rfl
      simp [Lib.join_cons, Lib.joinTail]; omega)
  rw [join3] at hj
  generalize x ++ ⟨#[32]⟩ ++ y ++ ⟨#[32]⟩ ++ z = m at *
  have HJ : Hid (Calls Tryz.prog 185 #[.slice (some ⟨A, 0, none⟩) 3 3, .string ⟨#[32]⟩] w fun e w' => e = .returned (.string m) ∧ Below w.heap.size w w') := hj
  clear hj h hs
  go_enter Tryz.func151, Tryz.ntmps151
  go_wp2_with (first
    | (go_at_call 185; refine HJ.out.mono ?_; rintro en w2 ⟨rfl, hb⟩; have B2 := Lib.hid hb; clear hb HJ)
    | (go_at_call 184; refine (fault_any _ _ _).mono ?_; rintro en w3 ⟨g, rfl, hg, hr, hb⟩
       have B3 : Hid (Below w.heap.size w w3) := below_more B2.out hb B2.out.size
       have hg3 : Hid (w.heap.size ≤ g) := Nat.le_trans B2.out.size hg
       have F3 := Lib.hid hr
       clear hr hb hg B2))
  go_returns
  exact ⟨_, rfl, ⟨g, rfl, hg3.out, F3.out⟩, B3.out⟩
theorem row_atOne (w : World) (A : Obj) (t : TypeId) (cs : List Value) : Row ((w.alloc A).alloc (.cells cs.toArray t)) (w.heap.size + 1) t cs := by
  have := Row.made (w.alloc A) t cs
  simpa using this
theorem name_size (d : Dat) : (nameOf d).size ≤ d.t.size + 3 := by
  unfold nameOf
  split
  · show 3 ≤ _
    omega
  · split
    · rw [ByteArray.size_append]
      show 1 + _ ≤ _
      omega
    · omega
theorem una_neg (t s : ByteArray) (n f ro rf rl rc : Int) (pa ia : Option Addr) (pn pc iN ic : Nat) (w : World) : Calls Tryz.prog 119 #[.string ⟨#[45]⟩, (Dat.mk 2 t n f s ro rf rl rc pa pn pc ia iN ic).val] w fun e w' => e = .returned (.tuple #[(mk 2 t (wrap64 (-n)) 0 ⟨#[]⟩).val, .nilIface]) ∧ Below w.heap.size w w' := by
  unfold mk Dat.val
  go_enter Tryz.func119, Tryz.ntmps119
  go_wp2
  go_returns
  exact ⟨rfl, by go_grown⟩
theorem una_not (t s : ByteArray) (n f ro rf rl rc : Int) (pa ia : Option Addr) (pn pc iN ic : Nat) (w : World) : Calls Tryz.prog 119 #[.string ⟨#[94]⟩, (Dat.mk 2 t n f s ro rf rl rc pa pn pc ia iN ic).val] w fun e w' => e = .returned (.tuple #[(mk 2 t (bits BinOp.xor .i64 (-1) n) 0 ⟨#[]⟩).val, .nilIface]) ∧ Below w.heap.size w w' := by
  unfold mk Dat.val
  go_enter Tryz.func119, Tryz.ntmps119
  go_wp2
  go_returns
  exact ⟨rfl, by go_grown⟩
theorem una_bang1 (t s : ByteArray) (n f ro rf rl rc : Int) (pa ia : Option Addr) (pn pc iN ic : Nat) (h0 : (n == 0) = true) (w : World) : Calls Tryz.prog 119 #[.string ⟨#[33]⟩, (Dat.mk 1 t n f s ro rf rl rc pa pn pc ia iN ic).val] w fun e w' => e = .returned (.tuple #[(mk 1 t 1 0 ⟨#[]⟩).val, .nilIface]) ∧ Below w.heap.size w w' := by
  unfold mk Dat.val
  go_enter Tryz.func119, Tryz.ntmps119
  go_wp2
  go_returns
  exact ⟨rfl, by go_grown⟩
theorem una_bang0 (t s : ByteArray) (n f ro rf rl rc : Int) (pa ia : Option Addr) (pn pc iN ic : Nat) (h0 : (n == 0) = false) (w : World) : Calls Tryz.prog 119 #[.string ⟨#[33]⟩, (Dat.mk 1 t n f s ro rf rl rc pa pn pc ia iN ic).val] w fun e w' => e = .returned (.tuple #[(mk 1 t 0 0 ⟨#[]⟩).val, .nilIface]) ∧ Below w.heap.size w w' := by
  unfold mk Dat.val
  go_enter Tryz.func119, Tryz.ntmps119
  go_wp2
  go_returns
  exact ⟨rfl, by go_grown⟩
theorem una_f0 (op : ByteArray) (t s : ByteArray) (n f ro rf rl rc : Int) (pa ia : Option Addr) (pn pc iN ic : Nat) (k : Int) (h1 : (op.toList == [45]) = false) (h2 : (op.toList == [94]) = false) (h3 : (op.toList == [33]) = false) (w : World) (hs : op.size + t.size ≤ 3000000) : Calls Tryz.prog 119 #[.string op, (Dat.mk k t n f s ro rf rl rc pa pn pc ia iN ic).val] w fun e w' => ∃ v, e = .returned (.tuple #[zeroD.val, v]) ∧ IsFault w w' v sOperand (op ++ ⟨#[32]⟩ ++ nameOf (Dat.mk k t n f s ro rf rl rc pa pn pc ia iN ic)) ∧ Below w.heap.size w w' := by
  have hn := fun w => name_any (Dat.mk k t n f s ro rf rl rc pa pn pc ia iN ic) w (by simp only; omega)
  have hz := name_size (Dat.mk k t n f s ro rf rl rc pa pn pc ia iN ic)
  generalize nameOf (Dat.mk k t n f s ro rf rl rc pa pn pc ia iN ic) = nm at *
  have hs2 : Hid (op.size + nm.size ≤ 4000000) := Lib.hid (by simp only at hz; omega)
  unfold Dat.val at *
  have HN := Lib.hid hn
  clear hn hz hs
  go_enter Tryz.func119, Tryz.ntmps119
  go_wp2_with (first
    | (go_at_call 152; refine (HN.out _).mono ?_; rintro en w2 ⟨rfl, hb⟩
       have R2 : Hid (Row w2 (w.heap.size + 1) 131 zeroC) := (row_atOne w _ 131 zeroC).below hb (by simp)
       have B2 : Hid (Below w.heap.size w w2) := below_more (below2 w _ _) hb (by simp <;> omega)
       clear hb HN)
    | (go_at_call 151; refine (operand2 w2.heap.size _ op nm _ (Row.made w2 _ [.string op, .string nm]) hs2.out).mono ?_
       rintro en w3 ⟨v, rfl, ⟨g, rfl, hg, hr⟩, hb⟩
       have R3 : Hid (Row w3 (w.heap.size + 1) 131 zeroC) := (R2.out.alloc _).below hb (R2.out.alloc _).lt
       have B3 : Hid (Below w.heap.size w w3) := below_more (B2.out.alloc B2.out.size _) hb (by have := B2.out.size; simp <;> omega)
       have hg3 : Hid (w.heap.size + 1 < g) := by have := R2.out.lt; simp at hg; exact Lib.hid (by omega)
       have F3 := Lib.hid hr
       clear hr hb hg B2 R2)
    | (refine put_dat (.tmp 4) (.tmp 66) (w.heap.size + 1) zeroC zeroD.cells _ rfl rfl rfl rfl R3.out rfl rfl rfl ?_; intro w5 hr5 hb5 hf5
       have B5 : Hid (Below w.heap.size w w5) := B3.out.trans (hb5 _ (by omega))
       have R5 := Lib.hid hr5
       have F5 : Hid (Row w5 g 139 _) := (hf5 g (by have := hg3.out; omega)).trans F3.out
       clear B3 R3 hb5 hr5 hf5 F3))
  refine bodyPost_ret (ret_ct rfl _ _ (w.heap.size + 1) _ rfl R5.out rfl) rfl ⟨_, rfl, ⟨g, rfl, by have := hg3.out; omega, F5.out⟩, B5.out⟩
theorem una_f45 (t s : ByteArray) (n f ro rf rl rc : Int) (pa ia : Option Addr) (pn pc iN ic : Nat) (k : Int) (h1 : (k == 2) = false) (h2 : (k == 3) = false) (w : World) (hs : (⟨#[45]⟩ : ByteArray).size + t.size ≤ 3000000) : Calls Tryz.prog 119 #[.string ⟨#[45]⟩, (Dat.mk k t n f s ro rf rl rc pa pn pc ia iN ic).val] w fun e w' => ∃ v, e = .returned (.tuple #[zeroD.val, v]) ∧ IsFault w w' v sOperand ((⟨#[45]⟩ : ByteArray) ++ ⟨#[32]⟩ ++ nameOf (Dat.mk k t n f s ro rf rl rc pa pn pc ia iN ic)) ∧ Below w.heap.size w w' := by
  have hn := fun w => name_any (Dat.mk k t n f s ro rf rl rc pa pn pc ia iN ic) w (by simp only; omega)
  have hz := name_size (Dat.mk k t n f s ro rf rl rc pa pn pc ia iN ic)
  generalize nameOf (Dat.mk k t n f s ro rf rl rc pa pn pc ia iN ic) = nm at *
  have hs2 : Hid ((⟨#[45]⟩ : ByteArray).size + nm.size ≤ 4000000) := Lib.hid (by simp only at hz; omega)
  unfold Dat.val at *
  have HN := Lib.hid hn
  clear hn hz hs
  go_enter Tryz.func119, Tryz.ntmps119
  go_wp2_with (first
    | (go_at_call 152; refine (HN.out _).mono ?_; rintro en w2 ⟨rfl, hb⟩
       have R2 : Hid (Row w2 (w.heap.size + 1) 131 zeroC) := (row_atOne w _ 131 zeroC).below hb (by simp)
       have B2 : Hid (Below w.heap.size w w2) := below_more (below2 w _ _) hb (by simp <;> omega)
       clear hb HN)
    | (go_at_call 151; refine (operand2 w2.heap.size _ ⟨#[45]⟩ nm _ (Row.made w2 _ [.string ⟨#[45]⟩, .string nm]) hs2.out).mono ?_
       rintro en w3 ⟨v, rfl, ⟨g, rfl, hg, hr⟩, hb⟩
       have R3 : Hid (Row w3 (w.heap.size + 1) 131 zeroC) := (R2.out.alloc _).below hb (R2.out.alloc _).lt
       have B3 : Hid (Below w.heap.size w w3) := below_more (B2.out.alloc B2.out.size _) hb (by have := B2.out.size; simp <;> omega)
       have hg3 : Hid (w.heap.size + 1 < g) := by have := R2.out.lt; simp at hg; exact Lib.hid (by omega)
       have F3 := Lib.hid hr
       clear hr hb hg B2 R2)
    | (refine put_dat (.tmp 4) (.tmp 66) (w.heap.size + 1) zeroC zeroD.cells _ rfl rfl rfl rfl R3.out rfl rfl rfl ?_; intro w5 hr5 hb5 hf5
       have B5 : Hid (Below w.heap.size w w5) := B3.out.trans (hb5 _ (by omega))
       have R5 := Lib.hid hr5
       have F5 : Hid (Row w5 g 139 _) := (hf5 g (by have := hg3.out; omega)).trans F3.out
       clear B3 R3 hb5 hr5 hf5 F3))
  refine bodyPost_ret (ret_ct rfl _ _ (w.heap.size + 1) _ rfl R5.out rfl) rfl ⟨_, rfl, ⟨g, rfl, by have := hg3.out; omega, F5.out⟩, B5.out⟩
theorem una_f94 (t s : ByteArray) (n f ro rf rl rc : Int) (pa ia : Option Addr) (pn pc iN ic : Nat) (k : Int) (h1 : (k == 2) = false) (w : World) (hs : (⟨#[94]⟩ : ByteArray).size + t.size ≤ 3000000) : Calls Tryz.prog 119 #[.string ⟨#[94]⟩, (Dat.mk k t n f s ro rf rl rc pa pn pc ia iN ic).val] w fun e w' => ∃ v, e = .returned (.tuple #[zeroD.val, v]) ∧ IsFault w w' v sOperand ((⟨#[94]⟩ : ByteArray) ++ ⟨#[32]⟩ ++ nameOf (Dat.mk k t n f s ro rf rl rc pa pn pc ia iN ic)) ∧ Below w.heap.size w w' := by
  have hn := fun w => name_any (Dat.mk k t n f s ro rf rl rc pa pn pc ia iN ic) w (by simp only; omega)
  have hz := name_size (Dat.mk k t n f s ro rf rl rc pa pn pc ia iN ic)
  generalize nameOf (Dat.mk k t n f s ro rf rl rc pa pn pc ia iN ic) = nm at *
  have hs2 : Hid ((⟨#[94]⟩ : ByteArray).size + nm.size ≤ 4000000) := Lib.hid (by simp only at hz; omega)
  unfold Dat.val at *
  have HN := Lib.hid hn
  clear hn hz hs
  go_enter Tryz.func119, Tryz.ntmps119
  go_wp2_with (first
    | (go_at_call 152; refine (HN.out _).mono ?_; rintro en w2 ⟨rfl, hb⟩
       have R2 : Hid (Row w2 (w.heap.size + 1) 131 zeroC) := (row_atOne w _ 131 zeroC).below hb (by simp)
       have B2 : Hid (Below w.heap.size w w2) := below_more (below2 w _ _) hb (by simp <;> omega)
       clear hb HN)
    | (go_at_call 151; refine (operand2 w2.heap.size _ ⟨#[94]⟩ nm _ (Row.made w2 _ [.string ⟨#[94]⟩, .string nm]) hs2.out).mono ?_
       rintro en w3 ⟨v, rfl, ⟨g, rfl, hg, hr⟩, hb⟩
       have R3 : Hid (Row w3 (w.heap.size + 1) 131 zeroC) := (R2.out.alloc _).below hb (R2.out.alloc _).lt
       have B3 : Hid (Below w.heap.size w w3) := below_more (B2.out.alloc B2.out.size _) hb (by have := B2.out.size; simp <;> omega)
       have hg3 : Hid (w.heap.size + 1 < g) := by have := R2.out.lt; simp at hg; exact Lib.hid (by omega)
       have F3 := Lib.hid hr
       clear hr hb hg B2 R2)
    | (refine put_dat (.tmp 4) (.tmp 66) (w.heap.size + 1) zeroC zeroD.cells _ rfl rfl rfl rfl R3.out rfl rfl rfl ?_; intro w5 hr5 hb5 hf5
       have B5 : Hid (Below w.heap.size w w5) := B3.out.trans (hb5 _ (by omega))
       have R5 := Lib.hid hr5
       have F5 : Hid (Row w5 g 139 _) := (hf5 g (by have := hg3.out; omega)).trans F3.out
       clear B3 R3 hb5 hr5 hf5 F3))
  refine bodyPost_ret (ret_ct rfl _ _ (w.heap.size + 1) _ rfl R5.out rfl) rfl ⟨_, rfl, ⟨g, rfl, by have := hg3.out; omega, F5.out⟩, B5.out⟩
theorem una_f33 (t s : ByteArray) (n f ro rf rl rc : Int) (pa ia : Option Addr) (pn pc iN ic : Nat) (k : Int) (h1 : (k == 1) = false) (w : World) (hs : (⟨#[33]⟩ : ByteArray).size + t.size ≤ 3000000) : Calls Tryz.prog 119 #[.string ⟨#[33]⟩, (Dat.mk k t n f s ro rf rl rc pa pn pc ia iN ic).val] w fun e w' => ∃ v, e = .returned (.tuple #[zeroD.val, v]) ∧ IsFault w w' v sOperand ((⟨#[33]⟩ : ByteArray) ++ ⟨#[32]⟩ ++ nameOf (Dat.mk k t n f s ro rf rl rc pa pn pc ia iN ic)) ∧ Below w.heap.size w w' := by
  have hn := fun w => name_any (Dat.mk k t n f s ro rf rl rc pa pn pc ia iN ic) w (by simp only; omega)
  have hz := name_size (Dat.mk k t n f s ro rf rl rc pa pn pc ia iN ic)
  generalize nameOf (Dat.mk k t n f s ro rf rl rc pa pn pc ia iN ic) = nm at *
  have hs2 : Hid ((⟨#[33]⟩ : ByteArray).size + nm.size ≤ 4000000) := Lib.hid (by simp only at hz; omega)
  unfold Dat.val at *
  have HN := Lib.hid hn
  clear hn hz hs
  go_enter Tryz.func119, Tryz.ntmps119
  go_wp2_with (first
    | (go_at_call 152; refine (HN.out _).mono ?_; rintro en w2 ⟨rfl, hb⟩
       have R2 : Hid (Row w2 (w.heap.size + 1) 131 zeroC) := (row_atOne w _ 131 zeroC).below hb (by simp)
       have B2 : Hid (Below w.heap.size w w2) := below_more (below2 w _ _) hb (by simp <;> omega)
       clear hb HN)
    | (go_at_call 151; refine (operand2 w2.heap.size _ ⟨#[33]⟩ nm _ (Row.made w2 _ [.string ⟨#[33]⟩, .string nm]) hs2.out).mono ?_
       rintro en w3 ⟨v, rfl, ⟨g, rfl, hg, hr⟩, hb⟩
       have R3 : Hid (Row w3 (w.heap.size + 1) 131 zeroC) := (R2.out.alloc _).below hb (R2.out.alloc _).lt
       have B3 : Hid (Below w.heap.size w w3) := below_more (B2.out.alloc B2.out.size _) hb (by have := B2.out.size; simp <;> omega)
       have hg3 : Hid (w.heap.size + 1 < g) := by have := R2.out.lt; simp at hg; exact Lib.hid (by omega)
       have F3 := Lib.hid hr
       clear hr hb hg B2 R2)
    | (refine put_dat (.tmp 4) (.tmp 66) (w.heap.size + 1) zeroC zeroD.cells _ rfl rfl rfl rfl R3.out rfl rfl rfl ?_; intro w5 hr5 hb5 hf5
       have B5 : Hid (Below w.heap.size w w5) := B3.out.trans (hb5 _ (by omega))
       have R5 := Lib.hid hr5
       have F5 : Hid (Row w5 g 139 _) := (hf5 g (by have := hg3.out; omega)).trans F3.out
       clear B3 R3 hb5 hr5 hf5 F3))
  refine bodyPost_ret (ret_ct rfl _ _ (w.heap.size + 1) _ rfl R5.out rfl) rfl ⟨_, rfl, ⟨g, rfl, by have := hg3.out; omega, F5.out⟩, B5.out⟩
end Go.Proofs.YtmecmlpoallpcaaGreatDoor

/- value.Equal of ints and flags. -/
namespace Go.Proofs.YtmecmlpoallpcaaGreatDoor
set_option linter.unusedVariables false
open Go.RowKit

/-- The kinds' own names. -/
def ownL : List ByteArray := [⟨#[110, 105, 108]⟩, ⟨#[98, 111, 111, 108]⟩, ⟨#[105, 110, 116]⟩, ⟨#[102, 108, 111, 97, 116]⟩, ⟨#[116, 101, 120, 116]⟩, ⟨#[108, 105, 115, 116]⟩, ⟨#[109, 97, 112]⟩, ⟨#[102, 117, 110, 99]⟩]
/-- What is read of the variable own. -/
structure OwnG (w : World) : Prop where
  at_ : ∀ (j : Nat) s, ownL[j]? = some s → w.cell? ⟨7, j, none⟩ = some (.string s)
  size : 14 ≤ w.heap.size
theorem OwnG.below {w w' : World} (h : OwnG w) (hb : Below w.heap.size w w') : OwnG w' :=
  ⟨fun j s hs => (hb.cell (p := ⟨7, j, none⟩) (show 7 < _ from Nat.lt_of_lt_of_le (by omega) h.size)).trans (h.at_ j s hs), Nat.le_trans h.size hb.size⟩
def refZ : Value := .agg #[.int .i64 0, .int .i64 0, .int .i64 0, .int .i64 0, .slice none 0 0]
set_option maxRecDepth 200000 in
theorem val_plain (w : World) : Calls Tryz.prog 227 #[refZ] w fun e w' => e = .returned (.bool true) ∧ Below w.heap.size w w' := by
  unfold refZ
  go_enter Tryz.func227, Tryz.ntmps227
  go_wp2
  go_ret
  exact ⟨rfl, by go_grown⟩
set_option maxRecDepth 200000 in
theorem val_leads (k : Int) (hk : k = 1 ∨ k = 2) (w : World) : Calls Tryz.prog 216 #[.int .i64 k, refZ] w fun e w' => e = .returned (.bool true) ∧ Below w.heap.size w w' := by
  have HP := Lib.hid val_plain
  unfold refZ at HP ⊢
  rcases hk with rfl | rfl
  · go_enter Tryz.func216, Tryz.ntmps216
    go_wp2_with (go_at_call 227; refine (HP.out _).mono ?_; rintro en w2 ⟨rfl, hb⟩; have B2 := Lib.hid (below_more (below1 w _) hb (below1 w _).size); clear hb)
    go_ret
    exact ⟨rfl, B2.out⟩
  · go_enter Tryz.func216, Tryz.ntmps216
    go_wp2_with (go_at_call 227; refine (HP.out _).mono ?_; rintro en w2 ⟨rfl, hb⟩; have B2 := Lib.hid (below_more (below1 w _) hb (below1 w _).size); clear hb)
    go_ret
    exact ⟨rfl, B2.out⟩
theorem own_contains (s : ByteArray) (g : Nat) (w : World) (hr : Row w g 277 (ownL.map Value.string)) : Calls Tryz.prog 99 #[.slice (some ⟨g, 0, none⟩) 8 8, .string s] w fun e w' => e = .returned (.bool (Lib.containsS ownL s)) ∧ w' = w := by
  refine (Tryz.slices_Contains_string g 0 8 8 ownL s _ (by decide) (by omega) (strings_at hr)).mono ?_
  rintro en w' ⟨rfl, rfl⟩
  exact ⟨rfl, rfl⟩
set_option maxRecDepth 200000 in
theorem val_declared (s : ByteArray) (hs : Lib.containsS ownL s = true) (h0 : s.toList.isEmpty = false) (h40 : ¬ (40 : Int) < s.size) (w : World) (G : OwnG w) : Calls Tryz.prog 217 #[.string s] w fun e w' => e = .returned (.bool false) ∧ Below w.heap.size w w' := by
  have g0 := G.at_ 0 _ rfl
  have g1 := G.at_ 1 _ rfl
  have g2 := G.at_ 2 _ rfl
  have g3 := G.at_ 3 _ rfl
  have g4 := G.at_ 4 _ rfl
  have g5 := G.at_ 5 _ rfl
  have g6 := G.at_ 6 _ rfl
  have g7 := G.at_ 7 _ rfl
  have HC := Lib.hid (own_contains s w.heap.size _ (Row.made w 277 (ownL.map Value.string)))
  rw [hs] at HC
  have hz := G.size
  clear G hs
  go_enter Tryz.func217, Tryz.ntmps217
  go_wp2_with (go_at_call 99; refine HC.out.mono ?_; rintro en w2 ⟨rfl, rfl⟩)
  go_ret
  exact ⟨rfl, below1 w _⟩
/-- An int's datum, a flag's. -/
def intD (n : Int) : Dat := mk 2 ⟨#[105, 110, 116]⟩ n 0 ⟨#[]⟩
def flagD (n : Int) : Dat := mk 1 sBool n 0 ⟨#[]⟩
theorem declared_int (w : World) (G : OwnG w) : Calls Tryz.prog 217 #[.string ⟨#[105, 110, 116]⟩] w fun e w' => e = .returned (.bool false) ∧ Below w.heap.size w w' := val_declared _ (by decide) (by rw [ByteArray.toList_eq]; rfl) (by decide) w G
theorem declared_bool (w : World) (G : OwnG w) : Calls Tryz.prog 217 #[.string ⟨#[98, 111, 111, 108]⟩] w fun e w' => e = .returned (.bool false) ∧ Below w.heap.size w w' := val_declared _ (by decide) (by rw [ByteArray.toList_eq]; rfl) (by decide) w G
theorem OwnG.low {w w' : World} {B : Nat} (h : OwnG w) (hb : Below B w w') (hB : 14 ≤ B) : OwnG w' :=
  ⟨fun j s hs => (hb.cell (p := ⟨7, j, none⟩) (show 7 < B by omega)).trans (h.at_ j s hs), Nat.le_trans h.size hb.size⟩
theorem right_prep {w w2 : World} {g : Nat} {u : Value} {cs : List Value} (hg : g < w.heap.size) (hb : Below ((w.setCell ⟨g, 0, none⟩ u).alloc (.cells cs.toArray 131)).heap.size ((w.setCell ⟨g, 0, none⟩ u).alloc (.cells cs.toArray 131)) w2) :
    Row w2 w.heap.size 131 cs ∧ Below g w w2 := by
  have hs : (w.setCell ⟨g, 0, none⟩ u).heap.size = w.heap.size := by simp [World.setCell]
  have hr := Row.made (w.setCell ⟨g, 0, none⟩ u) 131 cs
  rw [hs] at hr
  refine ⟨hr.below hb hr.lt, below_more (((Below.refl g w).setCell (Nat.le_refl _) u).alloc (by rw [hs]; omega) _) hb (by show g ≤ ((w.setCell _ u).heap.push _).size; rw [Array.size_push, hs]; omega)⟩
set_option maxRecDepth 200000 in
set_option maxHeartbeats 4000000 in
theorem val_right_int (n : Int) (g : Nat) (w : World) (G : OwnG w) (R : Row w g 3 [.int .i64 100]) (hg : 14 ≤ g) : Calls Tryz.prog 186 #[(intD n).val, .pointer (some ⟨g, 0, none⟩)] w fun e w' => e = .returned (.bool true) ∧ Below g w w' := by
  have HL := Lib.hid (val_leads 2 (.inr rfl))
  have HD := Lib.hid declared_int
  have c0 := R.cell 0
  have f0 := R.free 0
  have hlt := R.lt
  have HG := Lib.hid G
  unfold refZ at HL
  unfold intD mk Dat.val
  clear R G
  go_enter Tryz.func186, Tryz.ntmps186
  go_wp2_with (first
    | (go_at_call 216; refine (HL.out _).mono ?_; rintro en w2 ⟨rfl, hb⟩
       go_must (obtain ⟨hr, hB⟩ := right_prep hlt hb)
       obtain ⟨d0, d1, d2, d3, d4, d5, d6, d7, d8, d9, d10, _⟩ := row11 hr
       have hz2 := hr.lt
       have R2 := Lib.hid hr
       have B2 := Lib.hid hB
       clear hb hr hB)
    | (go_at_call 217; refine (HD.out _ (HG.out.low B2.out hg)).mono ?_; rintro en w3 ⟨rfl, hb⟩
       have hr := R2.out.below hb R2.out.lt
       have B3 := Lib.hid (below_more B2.out hb (Nat.le_trans (Nat.le_of_lt hlt) B2.out.size))
       clear d0 d1 d2 d3 d4 d5 d6 d7 d8 d9 d10
       obtain ⟨d0, d1, d2, d3, d4, d5, d6, d7, d8, d9, d10, _⟩ := row11 hr
       have hz3 := hr.lt
       have o2 := (HG.out.low B3.out hg).at_ 2 _ rfl
       clear hb hr))
  go_quiet (fail)
  go_wp2
  go_rounds 1
  go_ret
  exact ⟨rfl, below_drewN B3.out _⟩
set_option maxRecDepth 200000 in
set_option maxHeartbeats 4000000 in
theorem val_right_flag (n : Int) (hn : n = 0 ∨ n = 1) (g : Nat) (w : World) (G : OwnG w) (R : Row w g 3 [.int .i64 100]) (hg : 14 ≤ g) : Calls Tryz.prog 186 #[(flagD n).val, .pointer (some ⟨g, 0, none⟩)] w fun e w' => e = .returned (.bool true) ∧ Below g w w' := by
  have HL := Lib.hid (val_leads 1 (.inl rfl))
  have HD := Lib.hid declared_bool
  have c0 := R.cell 0
  have f0 := R.free 0
  have hlt := R.lt
  have HG := Lib.hid G
  unfold refZ at HL
  unfold flagD mk Dat.val sBool
  clear R G
  rcases hn with rfl | rfl
  · go_enter Tryz.func186, Tryz.ntmps186
    go_wp2_with (first
      | (go_at_call 216; refine (HL.out _).mono ?_; rintro en w2 ⟨rfl, hb⟩
         go_must (obtain ⟨hr, hB⟩ := right_prep hlt hb)
         obtain ⟨d0, d1, d2, d3, d4, d5, d6, d7, d8, d9, d10, _⟩ := row11 hr
         have hz2 := hr.lt
         have R2 := Lib.hid hr
         have B2 := Lib.hid hB
         clear hb hr hB)
      | (go_at_call 217; refine (HD.out _ (HG.out.low B2.out hg)).mono ?_; rintro en w3 ⟨rfl, hb⟩
         have hr := R2.out.below hb R2.out.lt
         have B3 := Lib.hid (below_more B2.out hb (Nat.le_trans (Nat.le_of_lt hlt) B2.out.size))
         clear d0 d1 d2 d3 d4 d5 d6 d7 d8 d9 d10
         obtain ⟨d0, d1, d2, d3, d4, d5, d6, d7, d8, d9, d10, _⟩ := row11 hr
         have hz3 := hr.lt
         have o2 := (HG.out.low B3.out hg).at_ 1 _ rfl
         clear hb hr))
    go_quiet (fail)
    go_wp2
    go_rounds 1
    go_ret
    exact ⟨rfl, below_drewN B3.out _⟩
  · go_enter Tryz.func186, Tryz.ntmps186
    go_wp2_with (first
      | (go_at_call 216; refine (HL.out _).mono ?_; rintro en w2 ⟨rfl, hb⟩
         go_must (obtain ⟨hr, hB⟩ := right_prep hlt hb)
         obtain ⟨d0, d1, d2, d3, d4, d5, d6, d7, d8, d9, d10, _⟩ := row11 hr
         have hz2 := hr.lt
         have R2 := Lib.hid hr
         have B2 := Lib.hid hB
         clear hb hr hB)
      | (go_at_call 217; refine (HD.out _ (HG.out.low B2.out hg)).mono ?_; rintro en w3 ⟨rfl, hb⟩
         have hr := R2.out.below hb R2.out.lt
         have B3 := Lib.hid (below_more B2.out hb (Nat.le_trans (Nat.le_of_lt hlt) B2.out.size))
         clear d0 d1 d2 d3 d4 d5 d6 d7 d8 d9 d10
         obtain ⟨d0, d1, d2, d3, d4, d5, d6, d7, d8, d9, d10, _⟩ := row11 hr
         have hz3 := hr.lt
         have o2 := (HG.out.low B3.out hg).at_ 1 _ rfl
         clear hb hr))
    go_quiet (fail)
    go_wp2
    go_rounds 1
    go_ret
    exact ⟨rfl, below_drewN B3.out _⟩
theorem two_blocks0 {B : Nat} {w0 w : World} (h : Below B w0 w) (hB : B ≤ w.heap.size) (X Y : Obj) : Below B w0 ((w.alloc X).alloc Y) := (h.alloc hB X).alloc (by show B ≤ (w.heap.push X).size; rw [Array.size_push]; omega) Y
set_option maxRecDepth 200000 in
theorem val_Right (d : Dat) (h : ∀ (g : Nat) (w : World) (G : OwnG w) (R : Row w g 3 [.int .i64 100]) (hg : 14 ≤ g), Calls Tryz.prog 186 #[d.val, .pointer (some ⟨g, 0, none⟩)] w fun e w' => e = .returned (.bool true) ∧ Below g w w') (w : World) (G : OwnG w) : Calls Tryz.prog 153 #[d.val] w fun e w' => e = .returned (.bool true) ∧ Below w.heap.size w w' := by
  have hsz := G.size
  have H := Lib.hid h
  have HG := Lib.hid G
  clear h G
  obtain ⟨k, t, n, f, s, ro, rf, rl, rc, pa, pn, pc, ia, iN, ic⟩ := d
  unfold Dat.val at H ⊢
  go_enter Tryz.func153, Tryz.ntmps153
  go_wp2_with (go_at_call 186; refine (H.out (w.heap.size + 1) _ (HG.out.below (two_blocks0 (Below.refl _ _) (Nat.le_refl _) _ _)) (row_atOne w _ 3 [.int .i64 100]) (by omega)).mono ?_; rintro en w2 ⟨rfl, hb⟩; have B2 := Lib.hid (two_blocks0 (Below.refl w.heap.size w) (Nat.le_refl _) _ _ |>.trans (below_low hb (Nat.le_succ _))); clear hb)
  go_ret
  exact ⟨rfl, B2.out⟩
end Go.Proofs.YtmecmlpoallpcaaGreatDoor
