/- peep.folder.folds: an operation on two constants. (Printed by gen_foldc.py.) -/
import Derived.Test.YtmecmlpoallpcaaGreatDoorM31
import Derived.Deep.RegionHeld3
import Derived.StillTailTactics
set_option linter.unusedSimpArgs false
namespace Go.Proofs.YtmecmlpoallpcaaGreatDoor
set_option linter.unusedVariables false
open Go.RowKit Go.Proofs.PeepPlain


theorem last_st2 {w0 w : World} {B0 Bk gF gl cl gm go : Nat} {S : FSt} (h : St w0 B0 Bk gF gl cl gm go S w) (hl : S.l.length ≤ 100000) (n : Nat) (hn : n ≤ 2) (plain : Bool) :
    Calls Tryz.prog 90 #[.pointer (some ⟨gF, 0, none⟩), .int .i64 n, .bool plain] w fun e w' => e = .returned (lastV S n plain) ∧ St w0 B0 Bk gF gl cl gm go S w' ∧ Below w.heap.size w w' := by
  obtain ⟨v, F⟩ := h.at_
  refine (last_walk w Bk gF gl cl gm go v S F hl n hn plain).mono ?_
  rintro e w' ⟨rfl, q, rfl⟩
  exact ⟨rfl, h.next (below_drewN (Below.refl _ _) q), below_drewN (Below.refl _ _) q⟩

set_option maxRecDepth 200000 in
set_option maxHeartbeats 8000000 in
theorem folds_bi_two_true (w0 w : World) (B0 Bk gF gl cl gm go : Nat) (S : FSt) (hst : St w0 B0 Bk gF gl cl gm go S w) (hl : S.l.length ≤ 100000) (top k : Nat) (hks : S.ks = [top, k]) (hm : S.mark.getD top false = false) (HIO : ∀ i, i < S.l.length → InsOk (S.l.getD i default)) (a : Cst) (hc : cstOf (S.l.getD k default) = some a) (hop : (S.l.getD top default).op = 19) (hmk : S.mark.getD k false = true) : Calls Tryz.prog 58 #[.pointer (some ⟨gF, 0, none⟩)] w fun e w' => e = .returned (.bool false) ∧ St w0 B0 Bk gF gl cl gm go S w' := by
  have htop : top < S.l.length := hst.ks top (by rw [hks]; simp)
  have hkl : k < S.l.length := hst.ks k (by rw [hks]; simp)
  have T0 := Lib.hid hst
  have L0 := Lib.hid (fun (wx : World) (h : St w0 B0 Bk gF gl cl gm go S wx) => (show Calls Tryz.prog 90 #[.pointer (some ⟨gF, 0, none⟩), .int .i64 0, .bool true] wx fun e w' => e = .returned (.tuple #[.int .i64 (top : Nat), .bool true]) ∧ St w0 B0 Bk gF gl cl gm go S w' from by
    have := last_st h hl 0 (by omega) true
    rw [show lastV S 0 true = .tuple #[.int .i64 (top : Nat), .bool true] from by unfold lastV; rw [hks]; show (if (true && S.mark.getD top false) = true then _ else _) = _; rw [hm]; rfl] at this
    exact this))
  have L1 := Lib.hid (fun (wx : World) (h : St w0 B0 Bk gF gl cl gm go S wx) => (show Calls Tryz.prog 90 #[.pointer (some ⟨gF, 0, none⟩), .int .i64 1, .bool false] wx fun e w' => e = .returned (.tuple #[.int .i64 (k : Nat), .bool true]) ∧ St w0 B0 Bk gF gl cl gm go S w' from by
    have := last_st h hl 1 (by omega) false
    rw [show lastV S 1 false = .tuple #[.int .i64 (k : Nat), .bool true] from by unfold lastV; rw [hks]; rfl] at this
    exact this))
  obtain ⟨x, hx⟩ : ∃ x, S.l.getD top default = x := ⟨_, rfl⟩
  obtain ⟨y, hy⟩ : ∃ y, S.l.getD k default = y := ⟨_, rfl⟩
  have hyo : InsOk y := hy ▸ HIO k hkl
  have IX := Lib.hid (fun (wx : World) (h : St w0 B0 Bk gF gl cl gm go S wx) => by have := h.ins htop; rw [hx] at this; exact this)
  have IY := Lib.hid (fun (wx : World) (h : St w0 B0 Bk gF gl cl gm go S wx) => by have := h.ins hkl; rw [hy] at this; exact this)
  rw [hy] at hc
  rw [hx] at hop
  obtain ⟨dA, hdA⟩ : ∃ d, datOf a = d := ⟨_, rfl⟩
  have HK := Lib.hid (fun wx => (show Calls Tryz.prog 91 #[insV y] wx fun e w' => e = .returned (.tuple #[dA.val, .bool true]) ∧ Below wx.heap.size wx w' from by have := constant_walk y hyo wx; rw [hc] at this; rw [← hdA]; exact this))
  have L2 := Lib.hid (fun (wx : World) (h : St w0 B0 Bk gF gl cl gm go S wx) => (show Calls Tryz.prog 90 #[.pointer (some ⟨gF, 0, none⟩), .int .i64 2, .bool false] wx fun e w' => e = .returned (.tuple #[.int .i64 0, .bool false]) ∧ St w0 B0 Bk gF gl cl gm go S w' ∧ Below wx.heap.size wx w' from by
    have := last_st2 h hl 2 (by omega) false
    rw [show lastV S 2 false = .tuple #[.int .i64 0, .bool false] from by unfold lastV; rw [hks]; rfl] at this
    exact this))
  have L3 := Lib.hid (fun (wx : World) (h : St w0 B0 Bk gF gl cl gm go S wx) => (show Calls Tryz.prog 90 #[.pointer (some ⟨gF, 0, none⟩), .int .i64 1, .bool true] wx fun e w' => e = .returned (.tuple #[.int .i64 0, .bool false]) ∧ St w0 B0 Bk gF gl cl gm go S w' ∧ Below wx.heap.size wx w' from by
    have := last_st2 h hl 1 (by omega) true
    rw [show lastV S 1 true = .tuple #[.int .i64 0, .bool false] from by unfold lastV; rw [hks]; show (if (true && S.mark.getD k false) = true then _ else _) = _; rw [hmk]; rfl] at this
    exact this))
  obtain ⟨kdA, tdA, ndA, fdA, sdA, rodA, rfdA, rldA, rcdA, padA, pndA, pcdA, iadA, iNdA, icdA⟩ := dA
  simp only [insV, Dat.val] at HK
  rw [hop] at IX
  have bt : (0 : Int) ≤ (top : Int) ∧ (top : Int) < (S.l.length : Int) := by omega
  have bk : (0 : Int) ≤ (k : Int) ∧ (k : Int) < (S.l.length : Int) := by omega
  clear hst hks hm hc hyo HIO hx hy htop hkl hdA hop hmk
  go_enter Tryz.func58, Tryz.ntmps58
  go_wp2_with (first
    | (go_at_call 90; (with_reducible refine (L0.out _ T0.out).mono ?_); rintro en w1 ⟨rfl, h1⟩; have T1 := Lib.hid h1; clear h1 L0)
    | (go_at_call 90; (with_reducible refine (L1.out _ T1.out).mono ?_); rintro en w2 ⟨rfl, h2⟩
       have T2 := Lib.hid h2
       obtain ⟨f0, f1, f2⟩ := h2.row
       obtain ⟨x0, x1, x2, x3, x4⟩ := IX.out _ h2
       obtain ⟨y0, y1, y2, y3, y4⟩ := IY.out _ h2
       obtain ⟨z1, z2, z3, z4, _⟩ := h2.size
       clear h2 L1)
    | (go_at_call 91; (with_reducible refine (HK.out _).mono ?_); rintro en w3 ⟨rfl, hb⟩
       have T3 := Lib.hid ((T2.out.alloc _).next hb)
       have R3 := Lib.hid ((Row.made w2 50 [.int .i64 19, .int .i64 x.a, .int .i64 x.b, .string x.text, .int .i64 x.pos]).below hb (Row.made w2 50 _).lt)
       clear f0 f1 f2 x0 x1 x2 x3 x4 y0 y1 y2 y3 y4 z1 z2 z3 z4
       obtain ⟨f0, f1, f2⟩ := T3.out.row
       obtain ⟨y0, y1, y2, y3, y4⟩ := IY.out _ T3.out
       obtain ⟨z1, z2, z3, z4, _⟩ := T3.out.size
       have zr := R3.out.lt
       have i0 := R3.out.cell 0
       have i1 := R3.out.cell 1
       have i3 := R3.out.cell 3
       have i4 := R3.out.cell 4
       clear hb HK)
    | (go_at_call 90; (with_reducible refine (L2.out _ (T3.out.alloc _)).mono ?_); rintro en w4 ⟨rfl, h4, hb⟩
       have T4 := Lib.hid h4
       have R4 := Lib.hid ((R3.out.alloc _).below hb (R3.out.alloc _).lt)
       have Q4 := Lib.hid ((Row.made w3 131 [.int .i64 kdA, .string tdA, .int .i64 ndA, .int .u64 fdA, .string sdA, .int .i64 rodA, .int .i64 rfdA, .int .i64 rldA, .int .i64 rcdA, .slice padA pndA pcdA, .slice iadA iNdA icdA]).below hb (Row.made w3 131 [.int .i64 kdA, .string tdA, .int .i64 ndA, .int .u64 fdA, .string sdA, .int .i64 rodA, .int .i64 rfdA, .int .i64 rldA, .int .i64 rcdA, .slice padA pndA pcdA, .slice iadA iNdA icdA]).lt)
       clear f0 f1 f2 y0 y1 y2 y3 y4 z1 z2 z3 z4 zr i0 i1 i3 i4
       obtain ⟨f0, f1, f2⟩ := h4.row
       obtain ⟨z1, z2, z3, z4, _⟩ := h4.size
       have zr := R4.out.lt
       have zq := Q4.out.lt
       have i3 := R4.out.cell 3
       skip
       clear h4 hb L2)
    | (go_at_call 90; (with_reducible refine (L3.out _ T4.out).mono ?_); rintro en w5 ⟨rfl, h5, hb⟩
       have T5 := Lib.hid h5
       have R5 := Lib.hid ((R4.out).below hb (R4.out).lt)
       have Q5 := Lib.hid ((Q4.out).below hb (Q4.out).lt)
       clear f0 f1 f2 z1 z2 z3 z4 zr zq i3
       obtain ⟨f0, f1, f2⟩ := h5.row
       obtain ⟨z1, z2, z3, z4, _⟩ := h5.size
       have zr := R5.out.lt
       have zq := Q5.out.lt
       have i3 := R5.out.cell 3
       skip
       clear h5 hb L3))
  go_ret
  exact ⟨rfl, T5.out⟩

set_option maxRecDepth 200000 in
set_option maxHeartbeats 8000000 in
theorem folds_bi_two_false (w0 w : World) (B0 Bk gF gl cl gm go : Nat) (S : FSt) (hst : St w0 B0 Bk gF gl cl gm go S w) (hl : S.l.length ≤ 100000) (top k : Nat) (hks : S.ks = [top, k]) (hm : S.mark.getD top false = false) (HIO : ∀ i, i < S.l.length → InsOk (S.l.getD i default)) (a : Cst) (hc : cstOf (S.l.getD k default) = some a) (hop : (S.l.getD top default).op = 19) (hmk : S.mark.getD k false = false) : Calls Tryz.prog 58 #[.pointer (some ⟨gF, 0, none⟩)] w fun e w' => e = .returned (.bool false) ∧ St w0 B0 Bk gF gl cl gm go S w' := by
  have htop : top < S.l.length := hst.ks top (by rw [hks]; simp)
  have hkl : k < S.l.length := hst.ks k (by rw [hks]; simp)
  have T0 := Lib.hid hst
  have L0 := Lib.hid (fun (wx : World) (h : St w0 B0 Bk gF gl cl gm go S wx) => (show Calls Tryz.prog 90 #[.pointer (some ⟨gF, 0, none⟩), .int .i64 0, .bool true] wx fun e w' => e = .returned (.tuple #[.int .i64 (top : Nat), .bool true]) ∧ St w0 B0 Bk gF gl cl gm go S w' from by
    have := last_st h hl 0 (by omega) true
    rw [show lastV S 0 true = .tuple #[.int .i64 (top : Nat), .bool true] from by unfold lastV; rw [hks]; show (if (true && S.mark.getD top false) = true then _ else _) = _; rw [hm]; rfl] at this
    exact this))
  have L1 := Lib.hid (fun (wx : World) (h : St w0 B0 Bk gF gl cl gm go S wx) => (show Calls Tryz.prog 90 #[.pointer (some ⟨gF, 0, none⟩), .int .i64 1, .bool false] wx fun e w' => e = .returned (.tuple #[.int .i64 (k : Nat), .bool true]) ∧ St w0 B0 Bk gF gl cl gm go S w' from by
    have := last_st h hl 1 (by omega) false
    rw [show lastV S 1 false = .tuple #[.int .i64 (k : Nat), .bool true] from by unfold lastV; rw [hks]; rfl] at this
    exact this))
  obtain ⟨x, hx⟩ : ∃ x, S.l.getD top default = x := ⟨_, rfl⟩
  obtain ⟨y, hy⟩ : ∃ y, S.l.getD k default = y := ⟨_, rfl⟩
  have hyo : InsOk y := hy ▸ HIO k hkl
  have IX := Lib.hid (fun (wx : World) (h : St w0 B0 Bk gF gl cl gm go S wx) => by have := h.ins htop; rw [hx] at this; exact this)
  have IY := Lib.hid (fun (wx : World) (h : St w0 B0 Bk gF gl cl gm go S wx) => by have := h.ins hkl; rw [hy] at this; exact this)
  rw [hy] at hc
  rw [hx] at hop
  obtain ⟨dA, hdA⟩ : ∃ d, datOf a = d := ⟨_, rfl⟩
  have HK := Lib.hid (fun wx => (show Calls Tryz.prog 91 #[insV y] wx fun e w' => e = .returned (.tuple #[dA.val, .bool true]) ∧ Below wx.heap.size wx w' from by have := constant_walk y hyo wx; rw [hc] at this; rw [← hdA]; exact this))
  have L2 := Lib.hid (fun (wx : World) (h : St w0 B0 Bk gF gl cl gm go S wx) => (show Calls Tryz.prog 90 #[.pointer (some ⟨gF, 0, none⟩), .int .i64 2, .bool false] wx fun e w' => e = .returned (.tuple #[.int .i64 0, .bool false]) ∧ St w0 B0 Bk gF gl cl gm go S w' ∧ Below wx.heap.size wx w' from by
    have := last_st2 h hl 2 (by omega) false
    rw [show lastV S 2 false = .tuple #[.int .i64 0, .bool false] from by unfold lastV; rw [hks]; rfl] at this
    exact this))
  have L3 := Lib.hid (fun (wx : World) (h : St w0 B0 Bk gF gl cl gm go S wx) => (show Calls Tryz.prog 90 #[.pointer (some ⟨gF, 0, none⟩), .int .i64 1, .bool true] wx fun e w' => e = .returned (.tuple #[.int .i64 (k : Nat), .bool true]) ∧ St w0 B0 Bk gF gl cl gm go S w' ∧ Below wx.heap.size wx w' from by
    have := last_st2 h hl 1 (by omega) true
    rw [show lastV S 1 true = .tuple #[.int .i64 (k : Nat), .bool true] from by unfold lastV; rw [hks]; show (if (true && S.mark.getD k false) = true then _ else _) = _; rw [hmk]; rfl] at this
    exact this))
  obtain ⟨kdA, tdA, ndA, fdA, sdA, rodA, rfdA, rldA, rcdA, padA, pndA, pcdA, iadA, iNdA, icdA⟩ := dA
  simp only [insV, Dat.val] at HK
  rw [hop] at IX
  have bt : (0 : Int) ≤ (top : Int) ∧ (top : Int) < (S.l.length : Int) := by omega
  have bk : (0 : Int) ≤ (k : Int) ∧ (k : Int) < (S.l.length : Int) := by omega
  clear hst hks hm hc hyo HIO hx hy htop hkl hdA hop hmk
  go_enter Tryz.func58, Tryz.ntmps58
  go_wp2_with (first
    | (go_at_call 90; (with_reducible refine (L0.out _ T0.out).mono ?_); rintro en w1 ⟨rfl, h1⟩; have T1 := Lib.hid h1; clear h1 L0)
    | (go_at_call 90; (with_reducible refine (L1.out _ T1.out).mono ?_); rintro en w2 ⟨rfl, h2⟩
       have T2 := Lib.hid h2
       obtain ⟨f0, f1, f2⟩ := h2.row
       obtain ⟨x0, x1, x2, x3, x4⟩ := IX.out _ h2
       obtain ⟨y0, y1, y2, y3, y4⟩ := IY.out _ h2
       obtain ⟨z1, z2, z3, z4, _⟩ := h2.size
       clear h2 L1)
    | (go_at_call 91; (with_reducible refine (HK.out _).mono ?_); rintro en w3 ⟨rfl, hb⟩
       have T3 := Lib.hid ((T2.out.alloc _).next hb)
       have R3 := Lib.hid ((Row.made w2 50 [.int .i64 19, .int .i64 x.a, .int .i64 x.b, .string x.text, .int .i64 x.pos]).below hb (Row.made w2 50 _).lt)
       clear f0 f1 f2 x0 x1 x2 x3 x4 y0 y1 y2 y3 y4 z1 z2 z3 z4
       obtain ⟨f0, f1, f2⟩ := T3.out.row
       obtain ⟨y0, y1, y2, y3, y4⟩ := IY.out _ T3.out
       obtain ⟨z1, z2, z3, z4, _⟩ := T3.out.size
       have zr := R3.out.lt
       have i0 := R3.out.cell 0
       have i1 := R3.out.cell 1
       have i3 := R3.out.cell 3
       have i4 := R3.out.cell 4
       clear hb HK)
    | (go_at_call 90; (with_reducible refine (L2.out _ (T3.out.alloc _)).mono ?_); rintro en w4 ⟨rfl, h4, hb⟩
       have T4 := Lib.hid h4
       have R4 := Lib.hid ((R3.out.alloc _).below hb (R3.out.alloc _).lt)
       have Q4 := Lib.hid ((Row.made w3 131 [.int .i64 kdA, .string tdA, .int .i64 ndA, .int .u64 fdA, .string sdA, .int .i64 rodA, .int .i64 rfdA, .int .i64 rldA, .int .i64 rcdA, .slice padA pndA pcdA, .slice iadA iNdA icdA]).below hb (Row.made w3 131 [.int .i64 kdA, .string tdA, .int .i64 ndA, .int .u64 fdA, .string sdA, .int .i64 rodA, .int .i64 rfdA, .int .i64 rldA, .int .i64 rcdA, .slice padA pndA pcdA, .slice iadA iNdA icdA]).lt)
       clear f0 f1 f2 y0 y1 y2 y3 y4 z1 z2 z3 z4 zr i0 i1 i3 i4
       obtain ⟨f0, f1, f2⟩ := h4.row
       obtain ⟨z1, z2, z3, z4, _⟩ := h4.size
       have zr := R4.out.lt
       have zq := Q4.out.lt
       have i3 := R4.out.cell 3
       skip
       clear h4 hb L2)
    | (go_at_call 90; (with_reducible refine (L3.out _ T4.out).mono ?_); rintro en w5 ⟨rfl, h5, hb⟩
       have T5 := Lib.hid h5
       have R5 := Lib.hid ((R4.out).below hb (R4.out).lt)
       have Q5 := Lib.hid ((Q4.out).below hb (Q4.out).lt)
       clear f0 f1 f2 z1 z2 z3 z4 zr zq i3
       obtain ⟨f0, f1, f2⟩ := h5.row
       obtain ⟨z1, z2, z3, z4, _⟩ := h5.size
       have zr := R5.out.lt
       have zq := Q5.out.lt
       have i3 := R5.out.cell 3
       skip
       clear h5 hb L3))
  go_ret
  exact ⟨rfl, T5.out⟩

set_option maxRecDepth 200000 in
set_option maxHeartbeats 8000000 in
theorem folds_bi_mark (w0 w : World) (B0 Bk gF gl cl gm go : Nat) (S : FSt) (hst : St w0 B0 Bk gF gl cl gm go S w) (hl : S.l.length ≤ 100000) (top k j : Nat) (r : List Nat) (hks : S.ks = top :: k :: j :: r) (hm : S.mark.getD top false = false) (HIO : ∀ i, i < S.l.length → InsOk (S.l.getD i default)) (a : Cst) (hc : cstOf (S.l.getD k default) = some a) (hop : (S.l.getD top default).op = 19) (hmk : S.mark.getD k false = true) : Calls Tryz.prog 58 #[.pointer (some ⟨gF, 0, none⟩)] w fun e w' => e = .returned (.bool false) ∧ St w0 B0 Bk gF gl cl gm go S w' := by
  have htop : top < S.l.length := hst.ks top (by rw [hks]; simp)
  have hkl : k < S.l.length := hst.ks k (by rw [hks]; simp)
  have T0 := Lib.hid hst
  have L0 := Lib.hid (fun (wx : World) (h : St w0 B0 Bk gF gl cl gm go S wx) => (show Calls Tryz.prog 90 #[.pointer (some ⟨gF, 0, none⟩), .int .i64 0, .bool true] wx fun e w' => e = .returned (.tuple #[.int .i64 (top : Nat), .bool true]) ∧ St w0 B0 Bk gF gl cl gm go S w' from by
    have := last_st h hl 0 (by omega) true
    rw [show lastV S 0 true = .tuple #[.int .i64 (top : Nat), .bool true] from by unfold lastV; rw [hks]; show (if (true && S.mark.getD top false) = true then _ else _) = _; rw [hm]; rfl] at this
    exact this))
  have L1 := Lib.hid (fun (wx : World) (h : St w0 B0 Bk gF gl cl gm go S wx) => (show Calls Tryz.prog 90 #[.pointer (some ⟨gF, 0, none⟩), .int .i64 1, .bool false] wx fun e w' => e = .returned (.tuple #[.int .i64 (k : Nat), .bool true]) ∧ St w0 B0 Bk gF gl cl gm go S w' from by
    have := last_st h hl 1 (by omega) false
    rw [show lastV S 1 false = .tuple #[.int .i64 (k : Nat), .bool true] from by unfold lastV; rw [hks]; rfl] at this
    exact this))
  obtain ⟨x, hx⟩ : ∃ x, S.l.getD top default = x := ⟨_, rfl⟩
  obtain ⟨y, hy⟩ : ∃ y, S.l.getD k default = y := ⟨_, rfl⟩
  have hyo : InsOk y := hy ▸ HIO k hkl
  have IX := Lib.hid (fun (wx : World) (h : St w0 B0 Bk gF gl cl gm go S wx) => by have := h.ins htop; rw [hx] at this; exact this)
  have IY := Lib.hid (fun (wx : World) (h : St w0 B0 Bk gF gl cl gm go S wx) => by have := h.ins hkl; rw [hy] at this; exact this)
  rw [hy] at hc
  rw [hx] at hop
  obtain ⟨dA, hdA⟩ : ∃ d, datOf a = d := ⟨_, rfl⟩
  have HK := Lib.hid (fun wx => (show Calls Tryz.prog 91 #[insV y] wx fun e w' => e = .returned (.tuple #[dA.val, .bool true]) ∧ Below wx.heap.size wx w' from by have := constant_walk y hyo wx; rw [hc] at this; rw [← hdA]; exact this))
  have hjl : j < S.l.length := hst.ks j (by rw [hks]; simp)
  obtain ⟨u, hu⟩ : ∃ u, S.l.getD j default = u := ⟨_, rfl⟩
  have huo : InsOk u := hu ▸ HIO j hjl
  have IJ := Lib.hid (fun (wx : World) (h : St w0 B0 Bk gF gl cl gm go S wx) => by have := h.ins hjl; rw [hu] at this; exact this)
  have bj : (0 : Int) ≤ (j : Int) ∧ (j : Int) < (S.l.length : Int) := by omega
  have L2 := Lib.hid (fun (wx : World) (h : St w0 B0 Bk gF gl cl gm go S wx) => (show Calls Tryz.prog 90 #[.pointer (some ⟨gF, 0, none⟩), .int .i64 2, .bool false] wx fun e w' => e = .returned (.tuple #[.int .i64 (j : Nat), .bool true]) ∧ St w0 B0 Bk gF gl cl gm go S w' ∧ Below wx.heap.size wx w' from by
    have := last_st2 h hl 2 (by omega) false
    rw [show lastV S 2 false = .tuple #[.int .i64 (j : Nat), .bool true] from by unfold lastV; rw [hks]; rfl] at this
    exact this))
  have L3 := Lib.hid (fun (wx : World) (h : St w0 B0 Bk gF gl cl gm go S wx) => (show Calls Tryz.prog 90 #[.pointer (some ⟨gF, 0, none⟩), .int .i64 1, .bool true] wx fun e w' => e = .returned (.tuple #[.int .i64 0, .bool false]) ∧ St w0 B0 Bk gF gl cl gm go S w' ∧ Below wx.heap.size wx w' from by
    have := last_st2 h hl 1 (by omega) true
    rw [show lastV S 1 true = .tuple #[.int .i64 0, .bool false] from by unfold lastV; rw [hks]; show (if (true && S.mark.getD k false) = true then _ else _) = _; rw [hmk]; rfl] at this
    exact this))
  obtain ⟨kdA, tdA, ndA, fdA, sdA, rodA, rfdA, rldA, rcdA, padA, pndA, pcdA, iadA, iNdA, icdA⟩ := dA
  simp only [insV, Dat.val] at HK
  rw [hop] at IX
  have bt : (0 : Int) ≤ (top : Int) ∧ (top : Int) < (S.l.length : Int) := by omega
  have bk : (0 : Int) ≤ (k : Int) ∧ (k : Int) < (S.l.length : Int) := by omega
  clear hst hks hm hc hyo HIO hx hy htop hkl hdA hop hmk hjl hu huo
  go_enter Tryz.func58, Tryz.ntmps58
  go_wp2_with (first
    | (go_at_call 90; (with_reducible refine (L0.out _ T0.out).mono ?_); rintro en w1 ⟨rfl, h1⟩; have T1 := Lib.hid h1; clear h1 L0)
    | (go_at_call 90; (with_reducible refine (L1.out _ T1.out).mono ?_); rintro en w2 ⟨rfl, h2⟩
       have T2 := Lib.hid h2
       obtain ⟨f0, f1, f2⟩ := h2.row
       obtain ⟨x0, x1, x2, x3, x4⟩ := IX.out _ h2
       obtain ⟨y0, y1, y2, y3, y4⟩ := IY.out _ h2
       obtain ⟨z1, z2, z3, z4, _⟩ := h2.size
       clear h2 L1)
    | (go_at_call 91; (with_reducible refine (HK.out _).mono ?_); rintro en w3 ⟨rfl, hb⟩
       have T3 := Lib.hid ((T2.out.alloc _).next hb)
       have R3 := Lib.hid ((Row.made w2 50 [.int .i64 19, .int .i64 x.a, .int .i64 x.b, .string x.text, .int .i64 x.pos]).below hb (Row.made w2 50 _).lt)
       clear f0 f1 f2 x0 x1 x2 x3 x4 y0 y1 y2 y3 y4 z1 z2 z3 z4
       obtain ⟨f0, f1, f2⟩ := T3.out.row
       obtain ⟨y0, y1, y2, y3, y4⟩ := IY.out _ T3.out
       obtain ⟨z1, z2, z3, z4, _⟩ := T3.out.size
       have zr := R3.out.lt
       have i0 := R3.out.cell 0
       have i1 := R3.out.cell 1
       have i3 := R3.out.cell 3
       have i4 := R3.out.cell 4
       clear hb HK)
    | (go_at_call 90; (with_reducible refine (L2.out _ (T3.out.alloc _)).mono ?_); rintro en w4 ⟨rfl, h4, hb⟩
       have T4 := Lib.hid h4
       have R4 := Lib.hid ((R3.out.alloc _).below hb (R3.out.alloc _).lt)
       have Q4 := Lib.hid ((Row.made w3 131 [.int .i64 kdA, .string tdA, .int .i64 ndA, .int .u64 fdA, .string sdA, .int .i64 rodA, .int .i64 rfdA, .int .i64 rldA, .int .i64 rcdA, .slice padA pndA pcdA, .slice iadA iNdA icdA]).below hb (Row.made w3 131 [.int .i64 kdA, .string tdA, .int .i64 ndA, .int .u64 fdA, .string sdA, .int .i64 rodA, .int .i64 rfdA, .int .i64 rldA, .int .i64 rcdA, .slice padA pndA pcdA, .slice iadA iNdA icdA]).lt)
       clear f0 f1 f2 y0 y1 y2 y3 y4 z1 z2 z3 z4 zr i0 i1 i3 i4
       obtain ⟨f0, f1, f2⟩ := h4.row
       obtain ⟨z1, z2, z3, z4, _⟩ := h4.size
       have zr := R4.out.lt
       have zq := Q4.out.lt
       have i3 := R4.out.cell 3
       obtain ⟨j0, j1, j2, j3, j4⟩ := IJ.out _ h4
       clear h4 hb L2)
    | (go_at_call 90; (with_reducible refine (L3.out _ T4.out).mono ?_); rintro en w5 ⟨rfl, h5, hb⟩
       have T5 := Lib.hid h5
       have R5 := Lib.hid ((R4.out).below hb (R4.out).lt)
       have Q5 := Lib.hid ((Q4.out).below hb (Q4.out).lt)
       clear f0 f1 f2 z1 z2 z3 z4 zr zq i3 j0 j1 j2 j3 j4
       obtain ⟨f0, f1, f2⟩ := h5.row
       obtain ⟨z1, z2, z3, z4, _⟩ := h5.size
       have zr := R5.out.lt
       have zq := Q5.out.lt
       have i3 := R5.out.cell 3
       obtain ⟨j0, j1, j2, j3, j4⟩ := IJ.out _ h5
       clear h5 hb L3))
  go_ret
  exact ⟨rfl, T5.out⟩

set_option maxRecDepth 200000 in
set_option maxHeartbeats 8000000 in
theorem folds_bi_plain (w0 w : World) (B0 Bk gF gl cl gm go : Nat) (S : FSt) (hst : St w0 B0 Bk gF gl cl gm go S w) (hl : S.l.length ≤ 100000) (top k j : Nat) (r : List Nat) (hks : S.ks = top :: k :: j :: r) (hm : S.mark.getD top false = false) (HIO : ∀ i, i < S.l.length → InsOk (S.l.getD i default)) (a : Cst) (hc : cstOf (S.l.getD k default) = some a) (hop : (S.l.getD top default).op = 19) (hmk : S.mark.getD k false = false) (hcj : cstOf (S.l.getD j default) = none) : Calls Tryz.prog 58 #[.pointer (some ⟨gF, 0, none⟩)] w fun e w' => e = .returned (.bool false) ∧ St w0 B0 Bk gF gl cl gm go S w' := by
  have htop : top < S.l.length := hst.ks top (by rw [hks]; simp)
  have hkl : k < S.l.length := hst.ks k (by rw [hks]; simp)
  have T0 := Lib.hid hst
  have L0 := Lib.hid (fun (wx : World) (h : St w0 B0 Bk gF gl cl gm go S wx) => (show Calls Tryz.prog 90 #[.pointer (some ⟨gF, 0, none⟩), .int .i64 0, .bool true] wx fun e w' => e = .returned (.tuple #[.int .i64 (top : Nat), .bool true]) ∧ St w0 B0 Bk gF gl cl gm go S w' from by
    have := last_st h hl 0 (by omega) true
    rw [show lastV S 0 true = .tuple #[.int .i64 (top : Nat), .bool true] from by unfold lastV; rw [hks]; show (if (true && S.mark.getD top false) = true then _ else _) = _; rw [hm]; rfl] at this
    exact this))
  have L1 := Lib.hid (fun (wx : World) (h : St w0 B0 Bk gF gl cl gm go S wx) => (show Calls Tryz.prog 90 #[.pointer (some ⟨gF, 0, none⟩), .int .i64 1, .bool false] wx fun e w' => e = .returned (.tuple #[.int .i64 (k : Nat), .bool true]) ∧ St w0 B0 Bk gF gl cl gm go S w' from by
    have := last_st h hl 1 (by omega) false
    rw [show lastV S 1 false = .tuple #[.int .i64 (k : Nat), .bool true] from by unfold lastV; rw [hks]; rfl] at this
    exact this))
  obtain ⟨x, hx⟩ : ∃ x, S.l.getD top default = x := ⟨_, rfl⟩
  obtain ⟨y, hy⟩ : ∃ y, S.l.getD k default = y := ⟨_, rfl⟩
  have hyo : InsOk y := hy ▸ HIO k hkl
  have IX := Lib.hid (fun (wx : World) (h : St w0 B0 Bk gF gl cl gm go S wx) => by have := h.ins htop; rw [hx] at this; exact this)
  have IY := Lib.hid (fun (wx : World) (h : St w0 B0 Bk gF gl cl gm go S wx) => by have := h.ins hkl; rw [hy] at this; exact this)
  rw [hy] at hc
  rw [hx] at hop
  obtain ⟨dA, hdA⟩ : ∃ d, datOf a = d := ⟨_, rfl⟩
  have HK := Lib.hid (fun wx => (show Calls Tryz.prog 91 #[insV y] wx fun e w' => e = .returned (.tuple #[dA.val, .bool true]) ∧ Below wx.heap.size wx w' from by have := constant_walk y hyo wx; rw [hc] at this; rw [← hdA]; exact this))
  have hjl : j < S.l.length := hst.ks j (by rw [hks]; simp)
  obtain ⟨u, hu⟩ : ∃ u, S.l.getD j default = u := ⟨_, rfl⟩
  have huo : InsOk u := hu ▸ HIO j hjl
  have IJ := Lib.hid (fun (wx : World) (h : St w0 B0 Bk gF gl cl gm go S wx) => by have := h.ins hjl; rw [hu] at this; exact this)
  have bj : (0 : Int) ≤ (j : Int) ∧ (j : Int) < (S.l.length : Int) := by omega
  rw [hu] at hcj
  have HKJ := Lib.hid (fun wx => (show Calls Tryz.prog 91 #[insV u] wx fun e w' => e = .returned (.tuple #[zeroD.val, .bool false]) ∧ Below wx.heap.size wx w' from by have := constant_walk u huo wx; rw [hcj] at this; exact this))
  have L2 := Lib.hid (fun (wx : World) (h : St w0 B0 Bk gF gl cl gm go S wx) => (show Calls Tryz.prog 90 #[.pointer (some ⟨gF, 0, none⟩), .int .i64 2, .bool false] wx fun e w' => e = .returned (.tuple #[.int .i64 (j : Nat), .bool true]) ∧ St w0 B0 Bk gF gl cl gm go S w' ∧ Below wx.heap.size wx w' from by
    have := last_st2 h hl 2 (by omega) false
    rw [show lastV S 2 false = .tuple #[.int .i64 (j : Nat), .bool true] from by unfold lastV; rw [hks]; rfl] at this
    exact this))
  have L3 := Lib.hid (fun (wx : World) (h : St w0 B0 Bk gF gl cl gm go S wx) => (show Calls Tryz.prog 90 #[.pointer (some ⟨gF, 0, none⟩), .int .i64 1, .bool true] wx fun e w' => e = .returned (.tuple #[.int .i64 (k : Nat), .bool true]) ∧ St w0 B0 Bk gF gl cl gm go S w' ∧ Below wx.heap.size wx w' from by
    have := last_st2 h hl 1 (by omega) true
    rw [show lastV S 1 true = .tuple #[.int .i64 (k : Nat), .bool true] from by unfold lastV; rw [hks]; show (if (true && S.mark.getD k false) = true then _ else _) = _; rw [hmk]; rfl] at this
    exact this))
  obtain ⟨kdA, tdA, ndA, fdA, sdA, rodA, rfdA, rldA, rcdA, padA, pndA, pcdA, iadA, iNdA, icdA⟩ := dA
  simp only [insV, Dat.val, zeroD, mk] at HK HKJ
  rw [hop] at IX
  have bt : (0 : Int) ≤ (top : Int) ∧ (top : Int) < (S.l.length : Int) := by omega
  have bk : (0 : Int) ≤ (k : Int) ∧ (k : Int) < (S.l.length : Int) := by omega
  clear hst hks hm hc hyo HIO hx hy htop hkl hdA hop hmk hjl hu huo hcj
  go_enter Tryz.func58, Tryz.ntmps58
  go_wp2_with (first
    | (go_at_call 90; (with_reducible refine (L0.out _ T0.out).mono ?_); rintro en w1 ⟨rfl, h1⟩; have T1 := Lib.hid h1; clear h1 L0)
    | (go_at_call 90; (with_reducible refine (L1.out _ T1.out).mono ?_); rintro en w2 ⟨rfl, h2⟩
       have T2 := Lib.hid h2
       obtain ⟨f0, f1, f2⟩ := h2.row
       obtain ⟨x0, x1, x2, x3, x4⟩ := IX.out _ h2
       obtain ⟨y0, y1, y2, y3, y4⟩ := IY.out _ h2
       obtain ⟨z1, z2, z3, z4, _⟩ := h2.size
       clear h2 L1)
    | (go_at_call 91; (with_reducible refine (HK.out _).mono ?_); rintro en w3 ⟨rfl, hb⟩
       have T3 := Lib.hid ((T2.out.alloc _).next hb)
       have R3 := Lib.hid ((Row.made w2 50 [.int .i64 19, .int .i64 x.a, .int .i64 x.b, .string x.text, .int .i64 x.pos]).below hb (Row.made w2 50 _).lt)
       clear f0 f1 f2 x0 x1 x2 x3 x4 y0 y1 y2 y3 y4 z1 z2 z3 z4
       obtain ⟨f0, f1, f2⟩ := T3.out.row
       obtain ⟨y0, y1, y2, y3, y4⟩ := IY.out _ T3.out
       obtain ⟨z1, z2, z3, z4, _⟩ := T3.out.size
       have zr := R3.out.lt
       have i0 := R3.out.cell 0
       have i1 := R3.out.cell 1
       have i3 := R3.out.cell 3
       have i4 := R3.out.cell 4
       clear hb HK)
    | (go_at_call 90; (with_reducible refine (L2.out _ (T3.out.alloc _)).mono ?_); rintro en w4 ⟨rfl, h4, hb⟩
       have T4 := Lib.hid h4
       have R4 := Lib.hid ((R3.out.alloc _).below hb (R3.out.alloc _).lt)
       have Q4 := Lib.hid ((Row.made w3 131 [.int .i64 kdA, .string tdA, .int .i64 ndA, .int .u64 fdA, .string sdA, .int .i64 rodA, .int .i64 rfdA, .int .i64 rldA, .int .i64 rcdA, .slice padA pndA pcdA, .slice iadA iNdA icdA]).below hb (Row.made w3 131 [.int .i64 kdA, .string tdA, .int .i64 ndA, .int .u64 fdA, .string sdA, .int .i64 rodA, .int .i64 rfdA, .int .i64 rldA, .int .i64 rcdA, .slice padA pndA pcdA, .slice iadA iNdA icdA]).lt)
       clear f0 f1 f2 y0 y1 y2 y3 y4 z1 z2 z3 z4 zr i0 i1 i3 i4
       obtain ⟨f0, f1, f2⟩ := h4.row
       obtain ⟨z1, z2, z3, z4, _⟩ := h4.size
       have zr := R4.out.lt
       have zq := Q4.out.lt
       have i3 := R4.out.cell 3
       obtain ⟨j0, j1, j2, j3, j4⟩ := IJ.out _ h4
       clear h4 hb L2)
    | (go_at_call 90; (with_reducible refine (L3.out _ T4.out).mono ?_); rintro en w5 ⟨rfl, h5, hb⟩
       have T5 := Lib.hid h5
       have R5 := Lib.hid ((R4.out).below hb (R4.out).lt)
       have Q5 := Lib.hid ((Q4.out).below hb (Q4.out).lt)
       clear f0 f1 f2 z1 z2 z3 z4 zr zq i3 j0 j1 j2 j3 j4
       obtain ⟨f0, f1, f2⟩ := h5.row
       obtain ⟨z1, z2, z3, z4, _⟩ := h5.size
       have zr := R5.out.lt
       have zq := Q5.out.lt
       have i3 := R5.out.cell 3
       obtain ⟨j0, j1, j2, j3, j4⟩ := IJ.out _ h5
       clear h5 hb L3)
    | (go_at_call 91; (with_reducible refine (HKJ.out _).mono ?_); rintro en w6 ⟨rfl, hb⟩
       have T6 := Lib.hid (T5.out.next hb)
       have R6 := Lib.hid (R5.out.below hb R5.out.lt)
       have Q6 := Lib.hid (Q5.out.below hb Q5.out.lt)
       clear f0 f1 f2 z1 z2 z3 z4 zr zq i3 j0 j1 j2 j3 j4
       have zr := R6.out.lt
       have zq := Q6.out.lt
       have i3 := R6.out.cell 3
       obtain ⟨q_0, q_1, q_2, q_3, q_4, q_5, q_6, q_7, q_8, q_9, q_10, _⟩ := row11 Q6.out
       clear hb HKJ))
  go_ret
  exact ⟨rfl, T6.out.alloc _⟩
end Go.Proofs.YtmecmlpoallpcaaGreatDoor
