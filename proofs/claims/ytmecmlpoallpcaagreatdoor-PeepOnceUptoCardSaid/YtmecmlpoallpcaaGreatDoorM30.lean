/- Texts of this proof, put together: FoldC, FoldD. -/
import Derived.Test.YtmecmlpoallpcaaGreatDoorM29
import Derived.Deep.RegionHeld3
import Derived.StillTailTactics
set_option linter.unusedSimpArgs false
/- peep.folder.folds: the ways on which nothing is put together. (Printed by gen_foldc.py.) -/
namespace Go.Proofs.YtmecmlpoallpcaaGreatDoor
set_option linter.unusedVariables false
open Go.RowKit Go.Proofs.PeepPlain


set_option maxRecDepth 200000 in
set_option maxHeartbeats 8000000 in
theorem folds_none (w0 w : World) (B0 Bk gF gl cl gm go : Nat) (S : FSt) (hst : St w0 B0 Bk gF gl cl gm go S w) (hl : S.l.length ≤ 100000) (hks : S.ks = []) : Calls Tryz.prog 58 #[.pointer (some ⟨gF, 0, none⟩)] w fun e w' => e = .returned (.bool false) ∧ St w0 B0 Bk gF gl cl gm go S w' := by
  have T0 := Lib.hid hst
  have L0 := Lib.hid (fun (wx : World) (h : St w0 B0 Bk gF gl cl gm go S wx) => (show Calls Tryz.prog 90 #[.pointer (some ⟨gF, 0, none⟩), .int .i64 0, .bool true] wx fun e w' => e = .returned (.tuple #[.int .i64 0, .bool false]) ∧ St w0 B0 Bk gF gl cl gm go S w' from by
    have := last_st h hl 0 (by omega) true
    rw [show lastV S 0 true = .tuple #[.int .i64 0, .bool false] from by unfold lastV; rw [hks]; rfl] at this
    exact this))
  have L1 := Lib.hid (fun (wx : World) (h : St w0 B0 Bk gF gl cl gm go S wx) => (show Calls Tryz.prog 90 #[.pointer (some ⟨gF, 0, none⟩), .int .i64 1, .bool false] wx fun e w' => e = .returned (.tuple #[.int .i64 0, .bool false]) ∧ St w0 B0 Bk gF gl cl gm go S w' from by
    have := last_st h hl 1 (by omega) false
    rw [show lastV S 1 false = .tuple #[.int .i64 0, .bool false] from by unfold lastV; rw [hks]; rfl] at this
    exact this))
  clear hst hks
  go_enter Tryz.func58, Tryz.ntmps58
  go_wp2_with (first
    | (go_at_call 90; (with_reducible refine (L0.out _ T0.out).mono ?_); rintro en w1 ⟨rfl, h1⟩; have T1 := Lib.hid h1; clear h1 L0)
    | (go_at_call 90; (with_reducible refine (L1.out _ T1.out).mono ?_); rintro en w2 ⟨rfl, h2⟩; have T2 := Lib.hid h2; clear h2 L1))
  go_ret
  exact ⟨rfl, T2.out⟩

set_option maxRecDepth 200000 in
set_option maxHeartbeats 8000000 in
theorem folds_one_true (w0 w : World) (B0 Bk gF gl cl gm go : Nat) (S : FSt) (hst : St w0 B0 Bk gF gl cl gm go S w) (hl : S.l.length ≤ 100000) (top : Nat) (hks : S.ks = [top]) (hm : S.mark.getD top false = true) : Calls Tryz.prog 58 #[.pointer (some ⟨gF, 0, none⟩)] w fun e w' => e = .returned (.bool false) ∧ St w0 B0 Bk gF gl cl gm go S w' := by
  have T0 := Lib.hid hst
  have L0 := Lib.hid (fun (wx : World) (h : St w0 B0 Bk gF gl cl gm go S wx) => (show Calls Tryz.prog 90 #[.pointer (some ⟨gF, 0, none⟩), .int .i64 0, .bool true] wx fun e w' => e = .returned (.tuple #[.int .i64 0, .bool false]) ∧ St w0 B0 Bk gF gl cl gm go S w' from by
    have := last_st h hl 0 (by omega) true
    rw [show lastV S 0 true = .tuple #[.int .i64 0, .bool false] from by unfold lastV; rw [hks]; show (if (true && S.mark.getD top false) = true then _ else _) = _; rw [hm]; rfl] at this
    exact this))
  have L1 := Lib.hid (fun (wx : World) (h : St w0 B0 Bk gF gl cl gm go S wx) => (show Calls Tryz.prog 90 #[.pointer (some ⟨gF, 0, none⟩), .int .i64 1, .bool false] wx fun e w' => e = .returned (.tuple #[.int .i64 0, .bool false]) ∧ St w0 B0 Bk gF gl cl gm go S w' from by
    have := last_st h hl 1 (by omega) false
    rw [show lastV S 1 false = .tuple #[.int .i64 0, .bool false] from by unfold lastV; rw [hks]; rfl] at this
    exact this))
  clear hst hks hm
  go_enter Tryz.func58, Tryz.ntmps58
  go_wp2_with (first
    | (go_at_call 90; (with_reducible refine (L0.out _ T0.out).mono ?_); rintro en w1 ⟨rfl, h1⟩; have T1 := Lib.hid h1; clear h1 L0)
    | (go_at_call 90; (with_reducible refine (L1.out _ T1.out).mono ?_); rintro en w2 ⟨rfl, h2⟩; have T2 := Lib.hid h2; clear h2 L1))
  go_ret
  exact ⟨rfl, T2.out⟩

set_option maxRecDepth 200000 in
set_option maxHeartbeats 8000000 in
theorem folds_one_false (w0 w : World) (B0 Bk gF gl cl gm go : Nat) (S : FSt) (hst : St w0 B0 Bk gF gl cl gm go S w) (hl : S.l.length ≤ 100000) (top : Nat) (hks : S.ks = [top]) (hm : S.mark.getD top false = false) : Calls Tryz.prog 58 #[.pointer (some ⟨gF, 0, none⟩)] w fun e w' => e = .returned (.bool false) ∧ St w0 B0 Bk gF gl cl gm go S w' := by
  have T0 := Lib.hid hst
  have L0 := Lib.hid (fun (wx : World) (h : St w0 B0 Bk gF gl cl gm go S wx) => (show Calls Tryz.prog 90 #[.pointer (some ⟨gF, 0, none⟩), .int .i64 0, .bool true] wx fun e w' => e = .returned (.tuple #[.int .i64 (top : Nat), .bool true]) ∧ St w0 B0 Bk gF gl cl gm go S w' from by
    have := last_st h hl 0 (by omega) true
    rw [show lastV S 0 true = .tuple #[.int .i64 (top : Nat), .bool true] from by unfold lastV; rw [hks]; show (if (true && S.mark.getD top false) = true then _ else _) = _; rw [hm]; rfl] at this
    exact this))
  have L1 := Lib.hid (fun (wx : World) (h : St w0 B0 Bk gF gl cl gm go S wx) => (show Calls Tryz.prog 90 #[.pointer (some ⟨gF, 0, none⟩), .int .i64 1, .bool false] wx fun e w' => e = .returned (.tuple #[.int .i64 0, .bool false]) ∧ St w0 B0 Bk gF gl cl gm go S w' from by
    have := last_st h hl 1 (by omega) false
    rw [show lastV S 1 false = .tuple #[.int .i64 0, .bool false] from by unfold lastV; rw [hks]; rfl] at this
    exact this))
  clear hst hks hm
  go_enter Tryz.func58, Tryz.ntmps58
  go_wp2_with (first
    | (go_at_call 90; (with_reducible refine (L0.out _ T0.out).mono ?_); rintro en w1 ⟨rfl, h1⟩; have T1 := Lib.hid h1; clear h1 L0)
    | (go_at_call 90; (with_reducible refine (L1.out _ T1.out).mono ?_); rintro en w2 ⟨rfl, h2⟩; have T2 := Lib.hid h2; clear h2 L1))
  go_ret
  exact ⟨rfl, T2.out⟩

set_option maxRecDepth 200000 in
set_option maxHeartbeats 8000000 in
theorem folds_mark (w0 w : World) (B0 Bk gF gl cl gm go : Nat) (S : FSt) (hst : St w0 B0 Bk gF gl cl gm go S w) (hl : S.l.length ≤ 100000) (top k : Nat) (r : List Nat) (hks : S.ks = top :: k :: r) (hm : S.mark.getD top false = true) : Calls Tryz.prog 58 #[.pointer (some ⟨gF, 0, none⟩)] w fun e w' => e = .returned (.bool false) ∧ St w0 B0 Bk gF gl cl gm go S w' := by
  have T0 := Lib.hid hst
  have L0 := Lib.hid (fun (wx : World) (h : St w0 B0 Bk gF gl cl gm go S wx) => (show Calls Tryz.prog 90 #[.pointer (some ⟨gF, 0, none⟩), .int .i64 0, .bool true] wx fun e w' => e = .returned (.tuple #[.int .i64 0, .bool false]) ∧ St w0 B0 Bk gF gl cl gm go S w' from by
    have := last_st h hl 0 (by omega) true
    rw [show lastV S 0 true = .tuple #[.int .i64 0, .bool false] from by unfold lastV; rw [hks]; show (if (true && S.mark.getD top false) = true then _ else _) = _; rw [hm]; rfl] at this
    exact this))
  have L1 := Lib.hid (fun (wx : World) (h : St w0 B0 Bk gF gl cl gm go S wx) => (show Calls Tryz.prog 90 #[.pointer (some ⟨gF, 0, none⟩), .int .i64 1, .bool false] wx fun e w' => e = .returned (.tuple #[.int .i64 (k : Nat), .bool true]) ∧ St w0 B0 Bk gF gl cl gm go S w' from by
    have := last_st h hl 1 (by omega) false
    rw [show lastV S 1 false = .tuple #[.int .i64 (k : Nat), .bool true] from by unfold lastV; rw [hks]; rfl] at this
    exact this))
  clear hst hks hm
  go_enter Tryz.func58, Tryz.ntmps58
  go_wp2_with (first
    | (go_at_call 90; (with_reducible refine (L0.out _ T0.out).mono ?_); rintro en w1 ⟨rfl, h1⟩; have T1 := Lib.hid h1; clear h1 L0)
    | (go_at_call 90; (with_reducible refine (L1.out _ T1.out).mono ?_); rintro en w2 ⟨rfl, h2⟩; have T2 := Lib.hid h2; clear h2 L1))
  go_ret
  exact ⟨rfl, T2.out⟩

set_option maxRecDepth 200000 in
set_option maxHeartbeats 8000000 in
theorem folds_plain (w0 w : World) (B0 Bk gF gl cl gm go : Nat) (S : FSt) (hst : St w0 B0 Bk gF gl cl gm go S w) (hl : S.l.length ≤ 100000) (top k : Nat) (r : List Nat) (hks : S.ks = top :: k :: r) (hm : S.mark.getD top false = false) (HIO : ∀ i, i < S.l.length → InsOk (S.l.getD i default)) (hc : cstOf (S.l.getD k default) = none) : Calls Tryz.prog 58 #[.pointer (some ⟨gF, 0, none⟩)] w fun e w' => e = .returned (.bool false) ∧ St w0 B0 Bk gF gl cl gm go S w' := by
  have htop : top < S.l.length := hst.ks top (by rw [hks]; simp)
  have hkl : k < S.l.length := hst.ks k (by rw [hks]; simp)
  have T0 := Lib.hid hst
  have L0 := Lib.hid (fun (wx : World) (h : St w0 B0 Bk gF gl cl gm go S wx) => (show Calls Tryz.prog 90 #[.pointer (some ⟨gF, 0, none⟩), .int .i64 0, .bool true] wx fun e w' => e = .returned (.tuple #[.int .i64 (top : Nat), .bool true]) ∧ St w0 B0 Bk gF gl cl gm go S w' from by
    have := last_st h hl 0 (by omega) true
    rw [show lastV S 0 true = .tuple #[.int .i64 (top : Nat), .bool true] from by unfold lastV; rw [hks]; show (if (true && S.mark.getD top false) = true then _ else _) = _; rw [hm]; rfl] at this
    exact this))
  have L1 := Lib.hid (fun (wx : World) (h : St w0 B0 Bk gF gl cl gm go S wx) => (show Calls Tryz.prog 90 #[.pointer (some ⟨gF, 0, none⟩), .int .i64 1, .bool false] wx fun e w' => e = .returned (.tuple #[.int .i64 (k : Nat), .bool true]) ∧ St w0 B0 Bk gF gl cl gm go S w' from by
    have := last_st h hl 1 (by omega) false
    rw [show lastV S 1 false = .tuple #[.int .i64 (k : Nat), .bool true] from by unfold lastV; rw [hks]; rfl] at this
    exact this))
  obtain ⟨x, hx⟩ : ∃ x, S.l.getD top default = x := ⟨_, rfl⟩
  obtain ⟨y, hy⟩ : ∃ y, S.l.getD k default = y := ⟨_, rfl⟩
  have hyo : InsOk y := hy ▸ HIO k hkl
  have IX := Lib.hid (fun (wx : World) (h : St w0 B0 Bk gF gl cl gm go S wx) => by have := h.ins htop; rw [hx] at this; exact this)
  have IY := Lib.hid (fun (wx : World) (h : St w0 B0 Bk gF gl cl gm go S wx) => by have := h.ins hkl; rw [hy] at this; exact this)
  rw [hy] at hc
  have HK := Lib.hid (fun wx => (show Calls Tryz.prog 91 #[insV y] wx fun e w' => e = .returned (.tuple #[zeroD.val, .bool false]) ∧ Below wx.heap.size wx w' from by have := constant_walk y hyo wx; rw [hc] at this; exact this))
  simp only [insV, zeroD, mk, Dat.val] at HK
  have bt : (0 : Int) ≤ (top : Int) ∧ (top : Int) < (S.l.length : Int) := by omega
  have bk : (0 : Int) ≤ (k : Int) ∧ (k : Int) < (S.l.length : Int) := by omega
  clear hst hks hm hc hyo HIO hx hy htop hkl
  go_enter Tryz.func58, Tryz.ntmps58
  go_wp2_with (first
    | (go_at_call 90; (with_reducible refine (L0.out _ T0.out).mono ?_); rintro en w1 ⟨rfl, h1⟩; have T1 := Lib.hid h1; clear h1 L0)
    | (go_at_call 90; (with_reducible refine (L1.out _ T1.out).mono ?_); rintro en w2 ⟨rfl, h2⟩
       have T2 := Lib.hid h2
       obtain ⟨f0, f1, f2⟩ := h2.row
       obtain ⟨x0, x1, x2, x3, x4⟩ := IX.out _ h2
       obtain ⟨y0, y1, y2, y3, y4⟩ := IY.out _ h2
       obtain ⟨z1, z2, z3, z4, _⟩ := h2.size
       clear h2 L1)
    | (go_at_call 91; (with_reducible refine (HK.out _).mono ?_); rintro en w3 ⟨rfl, hb⟩
       have T3 := Lib.hid ((T2.out.alloc _).next hb)
       have R3 := Lib.hid ((Row.made w2 50 [.int .i64 x.op, .int .i64 x.a, .int .i64 x.b, .string x.text, .int .i64 x.pos]).below hb (Row.made w2 50 _).lt)
       clear f0 f1 f2 x0 x1 x2 x3 x4 y0 y1 y2 y3 y4 z1 z2 z3 z4
       obtain ⟨f0, f1, f2⟩ := T3.out.row
       obtain ⟨y0, y1, y2, y3, y4⟩ := IY.out _ T3.out
       obtain ⟨z1, z2, z3, z4, _⟩ := T3.out.size
       have zr := R3.out.lt
       have i0 := R3.out.cell 0
       have i1 := R3.out.cell 1
       have i3 := R3.out.cell 3
       have i4 := R3.out.cell 4
       clear hb HK))
  go_ret
  exact ⟨rfl, T3.out.alloc _⟩
end Go.Proofs.YtmecmlpoallpcaaGreatDoor

/- peep.folder.folds: an operation that is none of the three; unary; branch. (Printed by gen_foldc.py.) -/
namespace Go.Proofs.YtmecmlpoallpcaaGreatDoor
set_option linter.unusedVariables false
open Go.RowKit Go.Proofs.PeepPlain


set_option maxRecDepth 200000 in
set_option maxHeartbeats 8000000 in
theorem folds_other (w0 w : World) (B0 Bk gF gl cl gm go : Nat) (S : FSt) (hst : St w0 B0 Bk gF gl cl gm go S w) (hl : S.l.length ≤ 100000) (top k : Nat) (r : List Nat) (hks : S.ks = top :: k :: r) (hm : S.mark.getD top false = false) (HIO : ∀ i, i < S.l.length → InsOk (S.l.getD i default)) (a : Cst) (hc : cstOf (S.l.getD k default) = some a) (h18 : (S.l.getD top default).op ≠ 18) (h35 : (S.l.getD top default).op ≠ 35) (h19 : (S.l.getD top default).op ≠ 19) : Calls Tryz.prog 58 #[.pointer (some ⟨gF, 0, none⟩)] w fun e w' => e = .returned (.bool false) ∧ St w0 B0 Bk gF gl cl gm go S w' := by
  have htop : top < S.l.length := hst.ks top (by rw [hks]; simp)
  have hkl : k < S.l.length := hst.ks k (by rw [hks]; simp)
  have T0 := Lib.hid hst
  have L0 := Lib.hid (fun (wx : World) (h : St w0 B0 Bk gF gl cl gm go S wx) => (show Calls Tryz.prog 90 #[.pointer (some ⟨gF, 0, none⟩), .int .i64 0, .bool true] wx fun e w' => e = .returned (.tuple #[.int .i64 (top : Nat), .bool true]) ∧ St w0 B0 Bk gF gl cl gm go S w' from by
    have := last_st h hl 0 (by omega) true
    rw [show lastV S 0 true = .tuple #[.int .i64 (top : Nat), .bool true] from by unfold lastV; rw [hks]; show (if (true && S.mark.getD top false) = true then _ else _) = _; rw [hm]; rfl] at this
    exact this))
  have L1 := Lib.hid (fun (wx : World) (h : St w0 B0 Bk gF gl cl gm go S wx) => (show Calls Tryz.prog 90 #[.pointer (some ⟨gF, 0, none⟩), .int .i64 1, .bool false] wx fun e w' => e = .returned (.tuple #[.int .i64 (k : Nat), .bool true]) ∧ St w0 B0 Bk gF gl cl gm go S w' from by
    have := last_st h hl 1 (by omega) false
    rw [show lastV S 1 false = .tuple #[.int .i64 (k : Nat), .bool true] from by unfold lastV; rw [hks]; rfl] at this
    exact this))
  obtain ⟨x, hx⟩ : ∃ x, S.l.getD top default = x := ⟨_, rfl⟩
  obtain ⟨y, hy⟩ : ∃ y, S.l.getD k default = y := ⟨_, rfl⟩
  have hyo : InsOk y := hy ▸ HIO k hkl
  have IX := Lib.hid (fun (wx : World) (h : St w0 B0 Bk gF gl cl gm go S wx) => by have := h.ins htop; rw [hx] at this; exact this)
  have IY := Lib.hid (fun (wx : World) (h : St w0 B0 Bk gF gl cl gm go S wx) => by have := h.ins hkl; rw [hy] at this; exact this)
  rw [hy] at hc
  rw [hx] at h18 h35 h19
  obtain ⟨dA, hdA⟩ : ∃ d, datOf a = d := ⟨_, rfl⟩
  have HK := Lib.hid (fun wx => (show Calls Tryz.prog 91 #[insV y] wx fun e w' => e = .returned (.tuple #[dA.val, .bool true]) ∧ Below wx.heap.size wx w' from by have := constant_walk y hyo wx; rw [hc] at this; rw [← hdA]; exact this))
  obtain ⟨kdA, tdA, ndA, fdA, sdA, rodA, rfdA, rldA, rcdA, padA, pndA, pcdA, iadA, iNdA, icdA⟩ := dA
  simp only [insV, Dat.val] at HK
  have b18 : (x.op == 18) = false := beq_eq_false_iff_ne.2 h18
  have b35 : (x.op == 35) = false := beq_eq_false_iff_ne.2 h35
  have b19 : (x.op == 19) = false := beq_eq_false_iff_ne.2 h19
  have bt : (0 : Int) ≤ (top : Int) ∧ (top : Int) < (S.l.length : Int) := by omega
  have bk : (0 : Int) ≤ (k : Int) ∧ (k : Int) < (S.l.length : Int) := by omega
  clear hst hks hm hc hyo HIO hx hy htop hkl hdA h18 h35 h19
  go_enter Tryz.func58, Tryz.ntmps58
  go_wp2_with (first
    | (go_at_call 90; (with_reducible refine (L0.out _ T0.out).mono ?_); rintro en w1 ⟨rfl, h1⟩; have T1 := Lib.hid h1; clear h1 L0)
    | (go_at_call 90; (with_reducible refine (L1.out _ T1.out).mono ?_); rintro en w2 ⟨rfl, h2⟩
       have T2 := Lib.hid h2
       obtain ⟨f0, f1, f2⟩ := h2.row
       obtain ⟨x0, x1, x2, x3, x4⟩ := IX.out _ h2
       obtain ⟨y0, y1, y2, y3, y4⟩ := IY.out _ h2
       obtain ⟨z1, z2, z3, z4, _⟩ := h2.size
       clear h2 L1)
    | (go_at_call 91; (with_reducible refine (HK.out _).mono ?_); rintro en w3 ⟨rfl, hb⟩
       have T3 := Lib.hid ((T2.out.alloc _).next hb)
       have R3 := Lib.hid ((Row.made w2 50 [.int .i64 x.op, .int .i64 x.a, .int .i64 x.b, .string x.text, .int .i64 x.pos]).below hb (Row.made w2 50 _).lt)
       clear f0 f1 f2 x0 x1 x2 x3 x4 y0 y1 y2 y3 y4 z1 z2 z3 z4
       obtain ⟨f0, f1, f2⟩ := T3.out.row
       obtain ⟨y0, y1, y2, y3, y4⟩ := IY.out _ T3.out
       obtain ⟨z1, z2, z3, z4, _⟩ := T3.out.size
       have zr := R3.out.lt
       have i0 := R3.out.cell 0
       have i1 := R3.out.cell 1
       have i3 := R3.out.cell 3
       have i4 := R3.out.cell 4
       clear hb HK))
  go_ret
  exact ⟨rfl, T3.out.alloc _⟩

set_option maxRecDepth 200000 in
set_option maxHeartbeats 8000000 in
theorem folds_un_no (w0 w : World) (B0 Bk gF gl cl gm go : Nat) (S : FSt) (hst : St w0 B0 Bk gF gl cl gm go S w) (hl : S.l.length ≤ 100000) (top k : Nat) (r : List Nat) (hks : S.ks = top :: k :: r) (hm : S.mark.getD top false = false) (HIO : ∀ i, i < S.l.length → InsOk (S.l.getD i default)) (a : Cst) (hc : cstOf (S.l.getD k default) = some a) (hop : (S.l.getD top default).op = 18) (hs : (S.l.getD top default).text.size ≤ 2000000) (hu : unOf (S.l.getD top default).text a = none) : Calls Tryz.prog 58 #[.pointer (some ⟨gF, 0, none⟩)] w fun e w' => e = .returned (.bool false) ∧ St w0 B0 Bk gF gl cl gm go S w' := by
  have htop : top < S.l.length := hst.ks top (by rw [hks]; simp)
  have hkl : k < S.l.length := hst.ks k (by rw [hks]; simp)
  have T0 := Lib.hid hst
  have L0 := Lib.hid (fun (wx : World) (h : St w0 B0 Bk gF gl cl gm go S wx) => (show Calls Tryz.prog 90 #[.pointer (some ⟨gF, 0, none⟩), .int .i64 0, .bool true] wx fun e w' => e = .returned (.tuple #[.int .i64 (top : Nat), .bool true]) ∧ St w0 B0 Bk gF gl cl gm go S w' from by
    have := last_st h hl 0 (by omega) true
    rw [show lastV S 0 true = .tuple #[.int .i64 (top : Nat), .bool true] from by unfold lastV; rw [hks]; show (if (true && S.mark.getD top false) = true then _ else _) = _; rw [hm]; rfl] at this
    exact this))
  have L1 := Lib.hid (fun (wx : World) (h : St w0 B0 Bk gF gl cl gm go S wx) => (show Calls Tryz.prog 90 #[.pointer (some ⟨gF, 0, none⟩), .int .i64 1, .bool false] wx fun e w' => e = .returned (.tuple #[.int .i64 (k : Nat), .bool true]) ∧ St w0 B0 Bk gF gl cl gm go S w' from by
    have := last_st h hl 1 (by omega) false
    rw [show lastV S 1 false = .tuple #[.int .i64 (k : Nat), .bool true] from by unfold lastV; rw [hks]; rfl] at this
    exact this))
  obtain ⟨x, hx⟩ : ∃ x, S.l.getD top default = x := ⟨_, rfl⟩
  obtain ⟨y, hy⟩ : ∃ y, S.l.getD k default = y := ⟨_, rfl⟩
  have hyo : InsOk y := hy ▸ HIO k hkl
  have IX := Lib.hid (fun (wx : World) (h : St w0 B0 Bk gF gl cl gm go S wx) => by have := h.ins htop; rw [hx] at this; exact this)
  have IY := Lib.hid (fun (wx : World) (h : St w0 B0 Bk gF gl cl gm go S wx) => by have := h.ins hkl; rw [hy] at this; exact this)
  rw [hy] at hc
  rw [hx] at hop hs hu
  obtain ⟨dA, hdA⟩ : ∃ d, datOf a = d := ⟨_, rfl⟩
  have HK := Lib.hid (fun wx => (show Calls Tryz.prog 91 #[insV y] wx fun e w' => e = .returned (.tuple #[dA.val, .bool true]) ∧ Below wx.heap.size wx w' from by have := constant_walk y hyo wx; rw [hc] at this; rw [← hdA]; exact this))
  have HU := Lib.hid (fun wx => (show Calls Tryz.prog 92 #[.string x.text, dA.val] wx fun e w' => (∃ d : Dat, e = .returned (.tuple #[d.val, .bool false])) ∧ Below wx.heap.size wx w' from by have := unary_walk x.text hs a wx; rw [hu, hdA] at this; exact this))
  obtain ⟨kdA, tdA, ndA, fdA, sdA, rodA, rfdA, rldA, rcdA, padA, pndA, pcdA, iadA, iNdA, icdA⟩ := dA
  simp only [insV, Dat.val] at HK HU
  rw [hop] at IX
  have bt : (0 : Int) ≤ (top : Int) ∧ (top : Int) < (S.l.length : Int) := by omega
  have bk : (0 : Int) ≤ (k : Int) ∧ (k : Int) < (S.l.length : Int) := by omega
  clear hst hks hm hc hyo HIO hx hy htop hkl hdA hop hs hu
  go_enter Tryz.func58, Tryz.ntmps58
  go_wp2_with (first
    | (go_at_call 90; (with_reducible refine (L0.out _ T0.out).mono ?_); rintro en w1 ⟨rfl, h1⟩; have T1 := Lib.hid h1; clear h1 L0)
    | (go_at_call 90; (with_reducible refine (L1.out _ T1.out).mono ?_); rintro en w2 ⟨rfl, h2⟩
       have T2 := Lib.hid h2
       obtain ⟨f0, f1, f2⟩ := h2.row
       obtain ⟨x0, x1, x2, x3, x4⟩ := IX.out _ h2
       obtain ⟨y0, y1, y2, y3, y4⟩ := IY.out _ h2
       obtain ⟨z1, z2, z3, z4, _⟩ := h2.size
       clear h2 L1)
    | (go_at_call 91; (with_reducible refine (HK.out _).mono ?_); rintro en w3 ⟨rfl, hb⟩
       have T3 := Lib.hid ((T2.out.alloc _).next hb)
       have R3 := Lib.hid ((Row.made w2 50 [.int .i64 18, .int .i64 x.a, .int .i64 x.b, .string x.text, .int .i64 x.pos]).below hb (Row.made w2 50 _).lt)
       clear f0 f1 f2 x0 x1 x2 x3 x4 y0 y1 y2 y3 y4 z1 z2 z3 z4
       obtain ⟨f0, f1, f2⟩ := T3.out.row
       obtain ⟨y0, y1, y2, y3, y4⟩ := IY.out _ T3.out
       obtain ⟨z1, z2, z3, z4, _⟩ := T3.out.size
       have zr := R3.out.lt
       have i0 := R3.out.cell 0
       have i1 := R3.out.cell 1
       have i3 := R3.out.cell 3
       have i4 := R3.out.cell 4
       clear hb HK)
    | (go_at_call 92; (with_reducible refine (HU.out _).mono ?_); rintro en w4 ⟨⟨d2, rfl⟩, hb⟩
       obtain ⟨kdB, tdB, ndB, fdB, sdB, rodB, rfdB, rldB, rcdB, padB, pndB, pcdB, iadB, iNdB, icdB⟩ := d2
       have T4 := Lib.hid ((T3.out.alloc _).next hb)
       clear hb HU))
  go_ret
  exact ⟨rfl, T4.out.alloc _⟩

set_option maxRecDepth 200000 in
set_option maxHeartbeats 8000000 in
theorem folds_un_yes (w0 w : World) (B0 Bk gF gl cl gm go : Nat) (S : FSt) (hst : St w0 B0 Bk gF gl cl gm go S w) (hl : S.l.length ≤ 100000) (top k : Nat) (r : List Nat) (hks : S.ks = top :: k :: r) (hm : S.mark.getD top false = false) (HIO : ∀ i, i < S.l.length → InsOk (S.l.getD i default)) (a : Cst) (hc : cstOf (S.l.getD k default) = some a) (hG : ∀ wx, Below B0 w0 wx → GlobP wx ∧ OwnG wx) (hop : (S.l.getD top default).op = 18) (hs : (S.l.getD top default).text.size ≤ 2000000) (d : Cst) (hd : CstOk d) (hu : unOf (S.l.getD top default).text a = some d) : Calls Tryz.prog 58 #[.pointer (some ⟨gF, 0, none⟩)] w fun e w' => e = .returned (.bool true) ∧ St w0 B0 Bk gF gl cl gm go ⟨S.l.set k (layOf d (S.l.getD k default).pos), S.mark, S.out.set top true, k :: r⟩ w' := by
  have htop : top < S.l.length := hst.ks top (by rw [hks]; simp)
  have hkl : k < S.l.length := hst.ks k (by rw [hks]; simp)
  have T0 := Lib.hid hst
  have L0 := Lib.hid (fun (wx : World) (h : St w0 B0 Bk gF gl cl gm go S wx) => (show Calls Tryz.prog 90 #[.pointer (some ⟨gF, 0, none⟩), .int .i64 0, .bool true] wx fun e w' => e = .returned (.tuple #[.int .i64 (top : Nat), .bool true]) ∧ St w0 B0 Bk gF gl cl gm go S w' from by
    have := last_st h hl 0 (by omega) true
    rw [show lastV S 0 true = .tuple #[.int .i64 (top : Nat), .bool true] from by unfold lastV; rw [hks]; show (if (true && S.mark.getD top false) = true then _ else _) = _; rw [hm]; rfl] at this
    exact this))
  have L1 := Lib.hid (fun (wx : World) (h : St w0 B0 Bk gF gl cl gm go S wx) => (show Calls Tryz.prog 90 #[.pointer (some ⟨gF, 0, none⟩), .int .i64 1, .bool false] wx fun e w' => e = .returned (.tuple #[.int .i64 (k : Nat), .bool true]) ∧ St w0 B0 Bk gF gl cl gm go S w' from by
    have := last_st h hl 1 (by omega) false
    rw [show lastV S 1 false = .tuple #[.int .i64 (k : Nat), .bool true] from by unfold lastV; rw [hks]; rfl] at this
    exact this))
  obtain ⟨x, hx⟩ : ∃ x, S.l.getD top default = x := ⟨_, rfl⟩
  obtain ⟨y, hy⟩ : ∃ y, S.l.getD k default = y := ⟨_, rfl⟩
  have hyo : InsOk y := hy ▸ HIO k hkl
  have IX := Lib.hid (fun (wx : World) (h : St w0 B0 Bk gF gl cl gm go S wx) => by have := h.ins htop; rw [hx] at this; exact this)
  have IY := Lib.hid (fun (wx : World) (h : St w0 B0 Bk gF gl cl gm go S wx) => by have := h.ins hkl; rw [hy] at this; exact this)
  rw [hy] at hc ⊢
  rw [hx] at hop hs hu
  obtain ⟨dA, hdA⟩ : ∃ d, datOf a = d := ⟨_, rfl⟩
  have HK := Lib.hid (fun wx => (show Calls Tryz.prog 91 #[insV y] wx fun e w' => e = .returned (.tuple #[dA.val, .bool true]) ∧ Below wx.heap.size wx w' from by have := constant_walk y hyo wx; rw [hc] at this; rw [← hdA]; exact this))
  obtain ⟨dB, hdB⟩ : ∃ e, datOf d = e := ⟨_, rfl⟩
  obtain ⟨z, hz⟩ : ∃ z, layOf d y.pos = z := ⟨_, rfl⟩
  have HU := Lib.hid (fun wx => (show Calls Tryz.prog 92 #[.string x.text, dA.val] wx fun e w' => e = .returned (.tuple #[dB.val, .bool true]) ∧ Below wx.heap.size wx w' from by have := unary_walk x.text hs a wx; rw [hu, hdA] at this; rw [← hdB]; exact this))
  have HLY := Lib.hid (fun wx (hb : Below B0 w0 wx) => (show Calls Tryz.prog 93 #[dB.val, .int .i64 y.pos] wx fun e w' => e = .returned (insV z) ∧ Below wx.heap.size wx w' from by have := lays_walk d hd y.pos wx (hG wx hb).1; rw [hdB, hz] at this; exact this))
  have HD := Lib.hid (fun (wx : World) (h : St w0 B0 Bk gF gl cl gm go ⟨S.l.set k z, S.mark, S.out, S.ks⟩ wx) => drop_st h (by show (S.l.set k z).length ≤ _; rw [List.length_set]; exact hl) 1 (by show 1 ≤ S.ks.length; rw [hks]; simp))
  have HFIN : Hid (dropN 1 ⟨S.l.set k z, S.mark, S.out, S.ks⟩ = ⟨S.l.set k z, S.mark, S.out.set top true, k :: r⟩) := Lib.hid (by rw [hks]; rfl)
  have HKL := Lib.hid hkl
  rw [hz]
  obtain ⟨kdA, tdA, ndA, fdA, sdA, rodA, rfdA, rldA, rcdA, padA, pndA, pcdA, iadA, iNdA, icdA⟩ := dA
  obtain ⟨kdB, tdB, ndB, fdB, sdB, rodB, rfdB, rldB, rcdB, padB, pndB, pcdB, iadB, iNdB, icdB⟩ := dB
  have hzp : z.pos = y.pos := by rw [← hz]; cases d <;> rfl
  have HZP := Lib.hid hzp
  simp only [insV, Dat.val] at HK HU HLY
  rw [hzp] at HLY
  rw [hop] at IX
  have bt : (0 : Int) ≤ (top : Int) ∧ (top : Int) < (S.l.length : Int) := by omega
  have bk : (0 : Int) ≤ (k : Int) ∧ (k : Int) < (S.l.length : Int) := by omega
  clear hst hks hm hc hyo HIO hx hy htop hkl hdA hdB hz hop hs hu hG hzp
  go_enter Tryz.func58, Tryz.ntmps58
  go_wp2_with (first
    | (go_at_call 90; (with_reducible refine (L0.out _ T0.out).mono ?_); rintro en w1 ⟨rfl, h1⟩; have T1 := Lib.hid h1; clear h1 L0)
    | (go_at_call 90; (with_reducible refine (L1.out _ T1.out).mono ?_); rintro en w2 ⟨rfl, h2⟩
       have T2 := Lib.hid h2
       obtain ⟨f0, f1, f2⟩ := h2.row
       obtain ⟨x0, x1, x2, x3, x4⟩ := IX.out _ h2
       obtain ⟨y0, y1, y2, y3, y4⟩ := IY.out _ h2
       obtain ⟨z1, z2, z3, z4, _⟩ := h2.size
       clear h2 L1)
    | (go_at_call 91; (with_reducible refine (HK.out _).mono ?_); rintro en w3 ⟨rfl, hb⟩
       have T3 := Lib.hid ((T2.out.alloc _).next hb)
       have R3 := Lib.hid ((Row.made w2 50 [.int .i64 18, .int .i64 x.a, .int .i64 x.b, .string x.text, .int .i64 x.pos]).below hb (Row.made w2 50 _).lt)
       clear f0 f1 f2 x0 x1 x2 x3 x4 y0 y1 y2 y3 y4 z1 z2 z3 z4
       obtain ⟨f0, f1, f2⟩ := T3.out.row
       obtain ⟨y0, y1, y2, y3, y4⟩ := IY.out _ T3.out
       obtain ⟨z1, z2, z3, z4, _⟩ := T3.out.size
       have zr := R3.out.lt
       have i0 := R3.out.cell 0
       have i1 := R3.out.cell 1
       have i3 := R3.out.cell 3
       have i4 := R3.out.cell 4
       clear hb HK)
    | (go_at_call 92; (with_reducible refine (HU.out _).mono ?_); rintro en w4 ⟨rfl, hb⟩
       have T4 := Lib.hid ((T3.out.alloc _).next hb)
       clear hb HU f0 f1 f2 y0 y1 y2 y3 y4 z1 z2 z3 z4))
  obtain ⟨w5, R5, T5, e⟩ : ∃ w5, Row w5 w4.heap.size 131 [.int .i64 kdB, .string tdB, .int .i64 ndB, .int .u64 fdB, .string sdB, .int .i64 rodB, .int .i64 rfdB, .int .i64 rldB, .int .i64 rcdB, .slice padB pndB pcdB, .slice iadB iNdB icdB] ∧ St w0 B0 Bk gF gl cl gm go S w5 ∧ w4.alloc (.cells #[.int .i64 kdB, .string tdB, .int .i64 ndB, .int .u64 fdB, .string sdB, .int .i64 rodB, .int .i64 rfdB, .int .i64 rldB, .int .i64 rcdB, .slice padB pndB pcdB, .slice iadB iNdB icdB] 131) = w5 := ⟨_, Row.made w4 131 _, T4.out.alloc _, rfl⟩
  rw [e]
  clear e
  obtain ⟨f0, f1, f2⟩ := T5.row
  obtain ⟨y0, y1, y2, y3, y4⟩ := IY.out _ T5
  obtain ⟨z1, z2, z3, z4, _⟩ := T5.size
  have hz5 := R5.lt
  have hn1 : gF ≠ gl := T5.apart
  have hn2 : w4.heap.size ≠ gl := by have := T4.out.size; omega
  have hn3 : gl ≠ gF := Ne.symm hn1
  have hn4 : gl ≠ w4.heap.size := Ne.symm hn2
  obtain ⟨q_0, q_1, q_2, q_3, q_4, q_5, q_6, q_7, q_8, q_9, q_10, kf⟩ := row11 R5
  have hfr := T5.free
  replace T5 := Lib.hid T5
  replace R5 := Lib.hid R5
  go_region_held3 (fun w' => w'.cell? ⟨gF, 0, none⟩ = some (.slice (some ⟨gl, 0, none⟩) S.l.length cl) ∧ w'.cell? ⟨gl, k * 5 + 4, none⟩ = some (.int .i64 y.pos) ∧ w'.cell? ⟨w4.heap.size, 0, none⟩ = some (.int .i64 kdB) ∧ w'.cell? ⟨w4.heap.size, 1, none⟩ = some (.string tdB) ∧ w'.cell? ⟨w4.heap.size, 2, none⟩ = some (.int .i64 ndB) ∧ w'.cell? ⟨w4.heap.size, 3, none⟩ = some (.int .u64 fdB) ∧ w'.cell? ⟨w4.heap.size, 4, none⟩ = some (.string sdB) ∧ w'.cell? ⟨w4.heap.size, 5, none⟩ = some (.int .i64 rodB) ∧ w'.cell? ⟨w4.heap.size, 6, none⟩ = some (.int .i64 rfdB) ∧ w'.cell? ⟨w4.heap.size, 7, none⟩ = some (.int .i64 rldB) ∧ w'.cell? ⟨w4.heap.size, 8, none⟩ = some (.int .i64 rcdB) ∧ w'.cell? ⟨w4.heap.size, 9, none⟩ = some (.slice padB pndB pcdB) ∧ w'.cell? ⟨w4.heap.size, 10, none⟩ = some (.slice iadB iNdB icdB))
    (first | (with_reducible exact ⟨f0, y4, q_0, q_1, q_2, q_3, q_4, q_5, q_6, q_7, q_8, q_9, q_10⟩) | (with_reducible exact ⟨far5 (i := k * 5) hn1 f0, St.pos5 T6.out HKL.out _ _ _ _ _, far5 (i := k * 5) hn2 q_0, far5 (i := k * 5) hn2 q_1, far5 (i := k * 5) hn2 q_2, far5 (i := k * 5) hn2 q_3, far5 (i := k * 5) hn2 q_4, far5 (i := k * 5) hn2 q_5, far5 (i := k * 5) hn2 q_6, far5 (i := k * 5) hn2 q_7, far5 (i := k * 5) hn2 q_8, far5 (i := k * 5) hn2 q_9, far5 (i := k * 5) hn2 q_10⟩) | go_keep)
    (first
    | (go_at_call 93; (with_reducible refine (HLY.out _ ?hb).mono ?_)
       case hb => exact T5.out.drew.below
       rintro en w6 ⟨rfl, hb⟩
       have T6 := Lib.hid (T5.out.drew.next hb)
       have R6 := Lib.hid (R5.out.drew.below hb R5.out.drew.lt)
       clear f0 f1 f2 y0 y1 y2 y3 y4 q_0 q_1 q_2 q_3 q_4 q_5 q_6 q_7 q_8 q_9 q_10 kf hfr
       obtain ⟨f0, f1, f2⟩ := T6.out.row
       obtain ⟨y0, y1, y2, y3, y4⟩ := IY.out _ T6.out
       obtain ⟨q_0, q_1, q_2, q_3, q_4, q_5, q_6, q_7, q_8, q_9, q_10, kf⟩ := row11 R6.out
       have hfr := T6.out.free
       clear hb HLY T5 R5))
  obtain ⟨w7, T7, e⟩ : ∃ w7, Hid (St w0 B0 Bk gF gl cl gm go ⟨S.l.set k z, S.mark, S.out, S.ks⟩ w7) ∧ put5 w6 gl (k * 5) z = w7 := ⟨_, Lib.hid (T6.out.put HKL.out z), rfl⟩
  unfold put5 at e
  rw [HZP.out] at e
  rw [e]
  clear e f0 f1 f2 y0 y1 y2 y3 y4 q_0 q_1 q_2 q_3 q_4 q_5 q_6 q_7 q_8 q_9 q_10 kf hfr
  go_wp2_with (go_at_call 94; refine (HD.out _ T7.out).mono ?_; rintro en w8 ⟨rfl, h8⟩; have T8 := Lib.hid h8; clear h8)
  go_ret
  exact ⟨rfl, by rw [← HFIN.out]; exact T8.out⟩
end Go.Proofs.YtmecmlpoallpcaaGreatDoor
