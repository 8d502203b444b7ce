/- peep.folder.folds: a branch on a constant. (Printed by gen_foldc.py.) -/
import Derived.Test.YtmecmlpoallpcaaGreatDoorM30
import Derived.Deep.RegionHeld3
import Derived.StillTailTactics
set_option linter.unusedSimpArgs false
namespace Go.Proofs.YtmecmlpoallpcaaGreatDoor
set_option linter.unusedVariables false
open Go.RowKit Go.Proofs.PeepPlain


set_option maxRecDepth 200000 in
set_option maxHeartbeats 8000000 in
theorem folds_br_other (w0 w : World) (B0 Bk gF gl cl gm go : Nat) (S : FSt) (hst : St w0 B0 Bk gF gl cl gm go S w) (hl : S.l.length ≤ 100000) (top k : Nat) (r : List Nat) (hks : S.ks = top :: k :: r) (hm : S.mark.getD top false = false) (HIO : ∀ i, i < S.l.length → InsOk (S.l.getD i default)) (a : Cst) (hc : cstOf (S.l.getD k default) = some a) (hop : (S.l.getD top default).op = 35) (hyop : (S.l.getD k default).op ≠ 6) : Calls Tryz.prog 58 #[.pointer (some ⟨gF, 0, none⟩)] w fun e w' => e = .returned (.bool false) ∧ St w0 B0 Bk gF gl cl gm go S w' := by
  have htop : top < S.l.length := hst.ks top (by rw [hks]; simp)
  have hkl : k < S.l.length := hst.ks k (by rw [hks]; simp)
  have T0 := Lib.hid hst
  have L0 := Lib.hid (fun (wx : World) (h : St w0 B0 Bk gF gl cl gm go S wx) => (show Calls Tryz.prog 90 #[.pointer (some ⟨gF, 0, none⟩), .int .i64 0, .bool true] wx fun e w' => e = .returned (.tuple #[.int .i64 (top : Nat), .bool true]) ∧ St w0 B0 Bk gF gl cl gm go S w' from by
    have := last_st h hl 0 (by omega) true
    rw [show lastV S 0 true = .tuple #[.int .i64 (top : Nat), .bool true] from by unfold lastV; rw [hks]; show (if (true && S.mark.getD top false) = true then _ else _) = _; rw [hm]; rfl] at this
    exact this))
  have L1 := Lib.hid (fun (wx : World) (h : St w0 B0 Bk gF gl cl gm go S wx) => (show Calls Tryz.prog 90 #[.pointer (some ⟨gF, 0, none⟩), .int .i64 1, .bool false] wx fun e w' => e = .returned (.tuple #[.int .i64 (k : Nat), .bool true]) ∧ St w0 B0 Bk gF gl cl gm go S w' from by
    have := last_st h hl 1 (by omega) false
    rw [show lastV S 1 false = .tuple #[.int .i64 (k : Nat), .bool true] from by unfold lastV; rw [hks]; rfl] at this
    exact this))
  obtain ⟨x, hx⟩ : ∃ x, S.l.getD top default = x := ⟨_, rfl⟩
  obtain ⟨y, hy⟩ : ∃ y, S.l.getD k default = y := ⟨_, rfl⟩
  have hyo : InsOk y := hy ▸ HIO k hkl
  have IX := Lib.hid (fun (wx : World) (h : St w0 B0 Bk gF gl cl gm go S wx) => by have := h.ins htop; rw [hx] at this; exact this)
  have IY := Lib.hid (fun (wx : World) (h : St w0 B0 Bk gF gl cl gm go S wx) => by have := h.ins hkl; rw [hy] at this; exact this)
  rw [hy] at hc hyop
  rw [hx] at hop
  obtain ⟨dA, hdA⟩ : ∃ d, datOf a = d := ⟨_, rfl⟩
  have HK := Lib.hid (fun wx => (show Calls Tryz.prog 91 #[insV y] wx fun e w' => e = .returned (.tuple #[dA.val, .bool true]) ∧ Below wx.heap.size wx w' from by have := constant_walk y hyo wx; rw [hc] at this; rw [← hdA]; exact this))
  obtain ⟨kdA, tdA, ndA, fdA, sdA, rodA, rfdA, rldA, rcdA, padA, pndA, pcdA, iadA, iNdA, icdA⟩ := dA
  simp only [insV, Dat.val] at HK
  have b6 : (y.op != 6) = true := bne_iff_ne.2 hyop
  rw [hop] at IX
  have bt : (0 : Int) ≤ (top : Int) ∧ (top : Int) < (S.l.length : Int) := by omega
  have bk : (0 : Int) ≤ (k : Int) ∧ (k : Int) < (S.l.length : Int) := by omega
  clear hst hks hm hc hyo HIO hx hy htop hkl hdA hop hyop
  go_enter Tryz.func58, Tryz.ntmps58
  go_wp2_with (first
    | (go_at_call 90; (with_reducible refine (L0.out _ T0.out).mono ?_); rintro en w1 ⟨rfl, h1⟩; have T1 := Lib.hid h1; clear h1 L0)
    | (go_at_call 90; (with_reducible refine (L1.out _ T1.out).mono ?_); rintro en w2 ⟨rfl, h2⟩
       have T2 := Lib.hid h2
       obtain ⟨f0, f1, f2⟩ := h2.row
       obtain ⟨x0, x1, x2, x3, x4⟩ := IX.out _ h2
       obtain ⟨y0, y1, y2, y3, y4⟩ := IY.out _ h2
       obtain ⟨z1, z2, z3, z4, _⟩ := h2.size
       clear h2 L1)
    | (go_at_call 91; (with_reducible refine (HK.out _).mono ?_); rintro en w3 ⟨rfl, hb⟩
       have T3 := Lib.hid ((T2.out.alloc _).next hb)
       have R3 := Lib.hid ((Row.made w2 50 [.int .i64 35, .int .i64 x.a, .int .i64 x.b, .string x.text, .int .i64 x.pos]).below hb (Row.made w2 50 _).lt)
       clear f0 f1 f2 x0 x1 x2 x3 x4 y0 y1 y2 y3 y4 z1 z2 z3 z4
       obtain ⟨f0, f1, f2⟩ := T3.out.row
       obtain ⟨y0, y1, y2, y3, y4⟩ := IY.out _ T3.out
       obtain ⟨z1, z2, z3, z4, _⟩ := T3.out.size
       have zr := R3.out.lt
       have i0 := R3.out.cell 0
       have i1 := R3.out.cell 1
       have i3 := R3.out.cell 3
       have i4 := R3.out.cell 4
       clear hb HK))
  go_ret
  exact ⟨rfl, T3.out.alloc _⟩

set_option maxRecDepth 200000 in
set_option maxHeartbeats 8000000 in
theorem folds_br_jump (w0 w : World) (B0 Bk gF gl cl gm go : Nat) (S : FSt) (hst : St w0 B0 Bk gF gl cl gm go S w) (hl : S.l.length ≤ 100000) (top k : Nat) (r : List Nat) (hks : S.ks = top :: k :: r) (hm : S.mark.getD top false = false) (HIO : ∀ i, i < S.l.length → InsOk (S.l.getD i default)) (a : Cst) (hc : cstOf (S.l.getD k default) = some a) (hop : (S.l.getD top default).op = 35) (hyop : (S.l.getD k default).op = 6) (hya : (S.l.getD k default).a ≠ 1) : Calls Tryz.prog 58 #[.pointer (some ⟨gF, 0, none⟩)] w fun e w' => e = .returned (.bool false) ∧ St w0 B0 Bk gF gl cl gm go ⟨S.l.set k ⟨34, (S.l.getD top default).a, 0, ⟨#[]⟩, (S.l.getD top default).pos⟩, S.mark, S.out.set top true, k :: r⟩ w' := by
  have htop : top < S.l.length := hst.ks top (by rw [hks]; simp)
  have hkl : k < S.l.length := hst.ks k (by rw [hks]; simp)
  have T0 := Lib.hid hst
  have L0 := Lib.hid (fun (wx : World) (h : St w0 B0 Bk gF gl cl gm go S wx) => (show Calls Tryz.prog 90 #[.pointer (some ⟨gF, 0, none⟩), .int .i64 0, .bool true] wx fun e w' => e = .returned (.tuple #[.int .i64 (top : Nat), .bool true]) ∧ St w0 B0 Bk gF gl cl gm go S w' from by
    have := last_st h hl 0 (by omega) true
    rw [show lastV S 0 true = .tuple #[.int .i64 (top : Nat), .bool true] from by unfold lastV; rw [hks]; show (if (true && S.mark.getD top false) = true then _ else _) = _; rw [hm]; rfl] at this
    exact this))
  have L1 := Lib.hid (fun (wx : World) (h : St w0 B0 Bk gF gl cl gm go S wx) => (show Calls Tryz.prog 90 #[.pointer (some ⟨gF, 0, none⟩), .int .i64 1, .bool false] wx fun e w' => e = .returned (.tuple #[.int .i64 (k : Nat), .bool true]) ∧ St w0 B0 Bk gF gl cl gm go S w' from by
    have := last_st h hl 1 (by omega) false
    rw [show lastV S 1 false = .tuple #[.int .i64 (k : Nat), .bool true] from by unfold lastV; rw [hks]; rfl] at this
    exact this))
  obtain ⟨x, hx⟩ : ∃ x, S.l.getD top default = x := ⟨_, rfl⟩
  obtain ⟨y, hy⟩ : ∃ y, S.l.getD k default = y := ⟨_, rfl⟩
  have hyo : InsOk y := hy ▸ HIO k hkl
  have IX := Lib.hid (fun (wx : World) (h : St w0 B0 Bk gF gl cl gm go S wx) => by have := h.ins htop; rw [hx] at this; exact this)
  have IY := Lib.hid (fun (wx : World) (h : St w0 B0 Bk gF gl cl gm go S wx) => by have := h.ins hkl; rw [hy] at this; exact this)
  rw [hy] at hc hyop hya
  rw [hx] at hop ⊢
  obtain ⟨dA, hdA⟩ : ∃ d, datOf a = d := ⟨_, rfl⟩
  have HK := Lib.hid (fun wx => (show Calls Tryz.prog 91 #[insV y] wx fun e w' => e = .returned (.tuple #[dA.val, .bool true]) ∧ Below wx.heap.size wx w' from by have := constant_walk y hyo wx; rw [hc] at this; rw [← hdA]; exact this))
  obtain ⟨kdA, tdA, ndA, fdA, sdA, rodA, rfdA, rldA, rcdA, padA, pndA, pcdA, iadA, iNdA, icdA⟩ := dA
  simp only [insV, Dat.val] at HK
  have b1 : (y.a == 1) = false := beq_eq_false_iff_ne.2 hya
  obtain ⟨z, hz⟩ : ∃ z : Ins, (⟨34, x.a, 0, ⟨#[]⟩, x.pos⟩ : Ins) = z := ⟨_, rfl⟩
  have HD := Lib.hid (fun (wx : World) (h : St w0 B0 Bk gF gl cl gm go ⟨S.l.set k z, S.mark, S.out, S.ks⟩ wx) => drop_st h (by show (S.l.set k z).length ≤ _; rw [List.length_set]; exact hl) 1 (by show 1 ≤ S.ks.length; rw [hks]; simp))
  have HFIN : Hid (dropN 1 ⟨S.l.set k z, S.mark, S.out, S.ks⟩ = ⟨S.l.set k z, S.mark, S.out.set top true, k :: r⟩) := Lib.hid (by rw [hks]; rfl)
  have HKL := Lib.hid hkl
  have HZ := Lib.hid hz
  rw [hz]
  rw [hop] at IX
  rw [hyop] at HK IY
  have bt : (0 : Int) ≤ (top : Int) ∧ (top : Int) < (S.l.length : Int) := by omega
  have bk : (0 : Int) ≤ (k : Int) ∧ (k : Int) < (S.l.length : Int) := by omega
  clear hst hks hm hc hyo HIO hx hy htop hkl hdA hop hyop hya hz
  go_enter Tryz.func58, Tryz.ntmps58
  go_wp2_with (first
    | (go_at_call 90; (with_reducible refine (L0.out _ T0.out).mono ?_); rintro en w1 ⟨rfl, h1⟩; have T1 := Lib.hid h1; clear h1 L0)
    | (go_at_call 90; (with_reducible refine (L1.out _ T1.out).mono ?_); rintro en w2 ⟨rfl, h2⟩
       have T2 := Lib.hid h2
       obtain ⟨f0, f1, f2⟩ := h2.row
       obtain ⟨x0, x1, x2, x3, x4⟩ := IX.out _ h2
       obtain ⟨y0, y1, y2, y3, y4⟩ := IY.out _ h2
       obtain ⟨z1, z2, z3, z4, _⟩ := h2.size
       clear h2 L1)
    | (go_at_call 91; (with_reducible refine (HK.out _).mono ?_); rintro en w3 ⟨rfl, hb⟩
       have T3 := Lib.hid ((T2.out.alloc _).next hb)
       have R3 := Lib.hid ((Row.made w2 50 [.int .i64 35, .int .i64 x.a, .int .i64 x.b, .string x.text, .int .i64 x.pos]).below hb (Row.made w2 50 _).lt)
       clear f0 f1 f2 x0 x1 x2 x3 x4 y0 y1 y2 y3 y4 z1 z2 z3 z4
       obtain ⟨f0, f1, f2⟩ := T3.out.row
       obtain ⟨y0, y1, y2, y3, y4⟩ := IY.out _ T3.out
       obtain ⟨z1, z2, z3, z4, _⟩ := T3.out.size
       have zr := R3.out.lt
       have i0 := R3.out.cell 0
       have i1 := R3.out.cell 1
       have i3 := R3.out.cell 3
       have i4 := R3.out.cell 4
       clear hb HK))
  obtain ⟨w4, R4, T4, e⟩ : ∃ w4, Row w4 w2.heap.size 50 [.int .i64 35, .int .i64 x.a, .int .i64 x.b, .string x.text, .int .i64 x.pos] ∧ St w0 B0 Bk gF gl cl gm go S w4 ∧ w3.alloc (.cells #[.int .i64 kdA, .string tdA, .int .i64 ndA, .int .u64 fdA, .string sdA, .int .i64 rodA, .int .i64 rfdA, .int .i64 rldA, .int .i64 rcdA, .slice padA pndA pcdA, .slice iadA iNdA icdA] 131) = w4 := ⟨_, R3.out.alloc _, T3.out.alloc _, rfl⟩
  rw [e]
  clear e f0 f1 f2 y0 y1 y2 y3 y4 z1 z2 z3 z4 i0 i1 i3 i4
  obtain ⟨f0, f1, f2⟩ := T4.row
  obtain ⟨y0, y1, y2, y3, y4⟩ := IY.out _ T4
  obtain ⟨z1, z2, z3, z4, _⟩ := T4.size
  have i1 := R4.cell 1
  have i4 := R4.cell 4
  have hfr := T4.free
  replace T4 := Lib.hid T4
  clear R4
  go_region
  all_goals
    obtain ⟨w7, T7, e⟩ : ∃ w7, Hid (St w0 B0 Bk gF gl cl gm go ⟨S.l.set k z, S.mark, S.out, S.ks⟩ w7) ∧ (put5 w4 gl (k * 5) z).drew = w7 := ⟨_, Lib.hid (T4.out.put HKL.out z).drew, rfl⟩
    rw [← HZ.out] at e
    unfold put5 at e
    dsimp only at e
    rw [e]
    clear e f0 f1 f2 y0 y1 y2 y3 y4 i1 i4 hfr
    go_wp2_with (go_at_call 94; refine (HD.out _ T7.out).mono ?_; rintro en w8 ⟨rfl, h8⟩; have T8 := Lib.hid h8; clear h8)
    go_ret
    exact ⟨rfl, by rw [← HFIN.out]; exact T8.out⟩

set_option maxRecDepth 200000 in
set_option maxHeartbeats 8000000 in
theorem folds_br_one_true (w0 w : World) (B0 Bk gF gl cl gm go : Nat) (S : FSt) (hst : St w0 B0 Bk gF gl cl gm go S w) (hl : S.l.length ≤ 100000) (top k : Nat) (r : List Nat) (hks : S.ks = top :: k :: r) (hm : S.mark.getD top false = false) (HIO : ∀ i, i < S.l.length → InsOk (S.l.getD i default)) (a : Cst) (hc : cstOf (S.l.getD k default) = some a) (hop : (S.l.getD top default).op = 35) (hyop : (S.l.getD k default).op = 6) (hya : (S.l.getD k default).a = 1) (ht1 : top + 1 < S.l.length) (hb1 : S.mark.getD (top + 1) false = true) : Calls Tryz.prog 58 #[.pointer (some ⟨gF, 0, none⟩)] w fun e w' => e = .returned (.bool false) ∧ St w0 B0 Bk gF gl cl gm go ⟨S.l, S.mark.set (top + 1) (true), (S.out.set top true).set k true, r⟩ w' := by
  have htop : top < S.l.length := hst.ks top (by rw [hks]; simp)
  have hkl : k < S.l.length := hst.ks k (by rw [hks]; simp)
  have T0 := Lib.hid hst
  have L0 := Lib.hid (fun (wx : World) (h : St w0 B0 Bk gF gl cl gm go S wx) => (show Calls Tryz.prog 90 #[.pointer (some ⟨gF, 0, none⟩), .int .i64 0, .bool true] wx fun e w' => e = .returned (.tuple #[.int .i64 (top : Nat), .bool true]) ∧ St w0 B0 Bk gF gl cl gm go S w' from by
    have := last_st h hl 0 (by omega) true
    rw [show lastV S 0 true = .tuple #[.int .i64 (top : Nat), .bool true] from by unfold lastV; rw [hks]; show (if (true && S.mark.getD top false) = true then _ else _) = _; rw [hm]; rfl] at this
    exact this))
  have L1 := Lib.hid (fun (wx : World) (h : St w0 B0 Bk gF gl cl gm go S wx) => (show Calls Tryz.prog 90 #[.pointer (some ⟨gF, 0, none⟩), .int .i64 1, .bool false] wx fun e w' => e = .returned (.tuple #[.int .i64 (k : Nat), .bool true]) ∧ St w0 B0 Bk gF gl cl gm go S w' from by
    have := last_st h hl 1 (by omega) false
    rw [show lastV S 1 false = .tuple #[.int .i64 (k : Nat), .bool true] from by unfold lastV; rw [hks]; rfl] at this
    exact this))
  obtain ⟨x, hx⟩ : ∃ x, S.l.getD top default = x := ⟨_, rfl⟩
  obtain ⟨y, hy⟩ : ∃ y, S.l.getD k default = y := ⟨_, rfl⟩
  have hyo : InsOk y := hy ▸ HIO k hkl
  have IX := Lib.hid (fun (wx : World) (h : St w0 B0 Bk gF gl cl gm go S wx) => by have := h.ins htop; rw [hx] at this; exact this)
  have IY := Lib.hid (fun (wx : World) (h : St w0 B0 Bk gF gl cl gm go S wx) => by have := h.ins hkl; rw [hy] at this; exact this)
  rw [hy] at hc hyop hya
  rw [hx] at hop
  obtain ⟨dA, hdA⟩ : ∃ d, datOf a = d := ⟨_, rfl⟩
  have HK := Lib.hid (fun wx => (show Calls Tryz.prog 91 #[insV y] wx fun e w' => e = .returned (.tuple #[dA.val, .bool true]) ∧ Below wx.heap.size wx w' from by have := constant_walk y hyo wx; rw [hc] at this; rw [← hdA]; exact this))
  obtain ⟨kdA, tdA, ndA, fdA, sdA, rodA, rfdA, rldA, rcdA, padA, pndA, pcdA, iadA, iNdA, icdA⟩ := dA
  simp only [insV, Dat.val] at HK
  have HBK := Lib.hid (fun (wx : World) (h : St w0 B0 Bk gF gl cl gm go S wx) => (h.bit hkl).1)
  have HBT := Lib.hid (fun (wx : World) (h : St w0 B0 Bk gF gl cl gm go S wx) => (show wx.cell? ⟨gm, top + 1, none⟩ = some (.bool true) ∧ wx.frozen? ⟨gm, top + 1, none⟩ = false from by have := h.bit ht1; rw [hb1] at this; exact this))
  have HD := Lib.hid (fun (wx : World) (h : St w0 B0 Bk gF gl cl gm go ⟨S.l, S.mark.set (top + 1) true, S.out, S.ks⟩ wx) => drop_st h hl 2 (by show 2 ≤ S.ks.length; rw [hks]; simp))
  have HFIN : Hid (dropN 2 ⟨S.l, S.mark.set (top + 1) true, S.out, S.ks⟩ = ⟨S.l, S.mark.set (top + 1) true, (S.out.set top true).set k true, r⟩) := Lib.hid (by rw [hks]; rfl)
  rw [hop] at IX
  rw [hyop, hya] at HK IY
  have bt1 : (0 : Int) ≤ (top : Int) + 1 ∧ (top : Int) + 1 < (S.l.length : Int) := by omega
  have bt : (0 : Int) ≤ (top : Int) ∧ (top : Int) < (S.l.length : Int) := by omega
  have bk : (0 : Int) ≤ (k : Int) ∧ (k : Int) < (S.l.length : Int) := by omega
  clear hst hks hm hc hyo HIO hx hy htop hkl hdA hop hyop hya hb1 ht1
  go_enter Tryz.func58, Tryz.ntmps58
  go_wp2_with (first
    | (go_at_call 90; (with_reducible refine (L0.out _ T0.out).mono ?_); rintro en w1 ⟨rfl, h1⟩; have T1 := Lib.hid h1; clear h1 L0)
    | (go_at_call 90; (with_reducible refine (L1.out _ T1.out).mono ?_); rintro en w2 ⟨rfl, h2⟩
       have T2 := Lib.hid h2
       obtain ⟨f0, f1, f2⟩ := h2.row
       obtain ⟨x0, x1, x2, x3, x4⟩ := IX.out _ h2
       obtain ⟨y0, y1, y2, y3, y4⟩ := IY.out _ h2
       obtain ⟨z1, z2, z3, z4, _⟩ := h2.size
       clear h2 L1)
    | (go_at_call 91; (with_reducible refine (HK.out _).mono ?_); rintro en w3 ⟨rfl, hb⟩
       have T3 := Lib.hid ((T2.out.alloc _).next hb)
       have R3 := Lib.hid ((Row.made w2 50 [.int .i64 35, .int .i64 x.a, .int .i64 x.b, .string x.text, .int .i64 x.pos]).below hb (Row.made w2 50 _).lt)
       clear f0 f1 f2 x0 x1 x2 x3 x4 y0 y1 y2 y3 y4 z1 z2 z3 z4
       obtain ⟨f0, f1, f2⟩ := T3.out.row
       obtain ⟨y0, y1, y2, y3, y4⟩ := IY.out _ T3.out
       obtain ⟨z1, z2, z3, z4, _⟩ := T3.out.size
       have zr := R3.out.lt
       have i0 := R3.out.cell 0
       have i1 := R3.out.cell 1
       have i3 := R3.out.cell 3
       have i4 := R3.out.cell 4
       clear hb HK))
  obtain ⟨w4, T4, e⟩ : ∃ w4, St w0 B0 Bk gF gl cl gm go S w4 ∧ w3.alloc (.cells #[.int .i64 kdA, .string tdA, .int .i64 ndA, .int .u64 fdA, .string sdA, .int .i64 rodA, .int .i64 rfdA, .int .i64 rldA, .int .i64 rcdA, .slice padA pndA pcdA, .slice iadA iNdA icdA] 131) = w4 := ⟨_, T3.out.alloc _, rfl⟩
  rw [e]
  clear e f0 f1 f2 y0 y1 y2 y3 y4 z1 z2 z3 z4 i0 i1 i3 i4
  obtain ⟨f0, f1, f2⟩ := T4.row
  have m0 := HBK.out _ T4
  obtain ⟨m1, mf⟩ := HBT.out _ T4
  replace T4 := Lib.hid T4
  have mf2 := mf
  go_region
  all_goals
    obtain ⟨w7, T7, e⟩ : ∃ w7, Hid (St w0 B0 Bk gF gl cl gm go ⟨S.l, S.mark.set (top + 1) true, S.out, S.ks⟩ w7) ∧ (w4.setCell ⟨gm, top + 1, none⟩ (.bool true)).drew = w7 := ⟨_, Lib.hid (T4.out.mark_ (top + 1) _).drew, rfl⟩
    rw [e]
    clear e f0 f1 f2 m0 m1 mf mf2
    go_wp2_with (go_at_call 94; refine (HD.out _ T7.out).mono ?_; rintro en w8 ⟨rfl, h8⟩; have T8 := Lib.hid h8; clear h8)
    go_ret
    exact ⟨rfl, by rw [← HFIN.out]; exact T8.out⟩

set_option maxRecDepth 200000 in
set_option maxHeartbeats 8000000 in
theorem folds_br_one_false (w0 w : World) (B0 Bk gF gl cl gm go : Nat) (S : FSt) (hst : St w0 B0 Bk gF gl cl gm go S w) (hl : S.l.length ≤ 100000) (top k : Nat) (r : List Nat) (hks : S.ks = top :: k :: r) (hm : S.mark.getD top false = false) (HIO : ∀ i, i < S.l.length → InsOk (S.l.getD i default)) (a : Cst) (hc : cstOf (S.l.getD k default) = some a) (hop : (S.l.getD top default).op = 35) (hyop : (S.l.getD k default).op = 6) (hya : (S.l.getD k default).a = 1) (ht1 : top + 1 < S.l.length) (hb1 : S.mark.getD (top + 1) false = false) : Calls Tryz.prog 58 #[.pointer (some ⟨gF, 0, none⟩)] w fun e w' => e = .returned (.bool false) ∧ St w0 B0 Bk gF gl cl gm go ⟨S.l, S.mark.set (top + 1) (S.mark.getD k false), (S.out.set top true).set k true, r⟩ w' := by
  have htop : top < S.l.length := hst.ks top (by rw [hks]; simp)
  have hkl : k < S.l.length := hst.ks k (by rw [hks]; simp)
  have T0 := Lib.hid hst
  have L0 := Lib.hid (fun (wx : World) (h : St w0 B0 Bk gF gl cl gm go S wx) => (show Calls Tryz.prog 90 #[.pointer (some ⟨gF, 0, none⟩), .int .i64 0, .bool true] wx fun e w' => e = .returned (.tuple #[.int .i64 (top : Nat), .bool true]) ∧ St w0 B0 Bk gF gl cl gm go S w' from by
    have := last_st h hl 0 (by omega) true
    rw [show lastV S 0 true = .tuple #[.int .i64 (top : Nat), .bool true] from by unfold lastV; rw [hks]; show (if (true && S.mark.getD top false) = true then _ else _) = _; rw [hm]; rfl] at this
    exact this))
  have L1 := Lib.hid (fun (wx : World) (h : St w0 B0 Bk gF gl cl gm go S wx) => (show Calls Tryz.prog 90 #[.pointer (some ⟨gF, 0, none⟩), .int .i64 1, .bool false] wx fun e w' => e = .returned (.tuple #[.int .i64 (k : Nat), .bool true]) ∧ St w0 B0 Bk gF gl cl gm go S w' from by
    have := last_st h hl 1 (by omega) false
    rw [show lastV S 1 false = .tuple #[.int .i64 (k : Nat), .bool true] from by unfold lastV; rw [hks]; rfl] at this
    exact this))
  obtain ⟨x, hx⟩ : ∃ x, S.l.getD top default = x := ⟨_, rfl⟩
  obtain ⟨y, hy⟩ : ∃ y, S.l.getD k default = y := ⟨_, rfl⟩
  have hyo : InsOk y := hy ▸ HIO k hkl
  have IX := Lib.hid (fun (wx : World) (h : St w0 B0 Bk gF gl cl gm go S wx) => by have := h.ins htop; rw [hx] at this; exact this)
  have IY := Lib.hid (fun (wx : World) (h : St w0 B0 Bk gF gl cl gm go S wx) => by have := h.ins hkl; rw [hy] at this; exact this)
  rw [hy] at hc hyop hya
  rw [hx] at hop
  obtain ⟨dA, hdA⟩ : ∃ d, datOf a = d := ⟨_, rfl⟩
  have HK := Lib.hid (fun wx => (show Calls Tryz.prog 91 #[insV y] wx fun e w' => e = .returned (.tuple #[dA.val, .bool true]) ∧ Below wx.heap.size wx w' from by have := constant_walk y hyo wx; rw [hc] at this; rw [← hdA]; exact this))
  obtain ⟨kdA, tdA, ndA, fdA, sdA, rodA, rfdA, rldA, rcdA, padA, pndA, pcdA, iadA, iNdA, icdA⟩ := dA
  simp only [insV, Dat.val] at HK
  obtain ⟨bq, hbq⟩ : ∃ b, S.mark.getD k false = b := ⟨_, rfl⟩
  have HBK := Lib.hid (fun (wx : World) (h : St w0 B0 Bk gF gl cl gm go S wx) => (h.bit hkl).1)
  have HBT := Lib.hid (fun (wx : World) (h : St w0 B0 Bk gF gl cl gm go S wx) => (show wx.cell? ⟨gm, top + 1, none⟩ = some (.bool false) ∧ wx.frozen? ⟨gm, top + 1, none⟩ = false from by have := h.bit ht1; rw [hb1] at this; exact this))
  rw [hbq] at HBK
  have HD := Lib.hid (fun (wx : World) (h : St w0 B0 Bk gF gl cl gm go ⟨S.l, S.mark.set (top + 1) bq, S.out, S.ks⟩ wx) => drop_st h hl 2 (by show 2 ≤ S.ks.length; rw [hks]; simp))
  have HFIN : Hid (dropN 2 ⟨S.l, S.mark.set (top + 1) bq, S.out, S.ks⟩ = ⟨S.l, S.mark.set (top + 1) bq, (S.out.set top true).set k true, r⟩) := Lib.hid (by rw [hks]; rfl)
  rw [hbq]
  rw [hop] at IX
  rw [hyop, hya] at HK IY
  have bt1 : (0 : Int) ≤ (top : Int) + 1 ∧ (top : Int) + 1 < (S.l.length : Int) := by omega
  have bt : (0 : Int) ≤ (top : Int) ∧ (top : Int) < (S.l.length : Int) := by omega
  have bk : (0 : Int) ≤ (k : Int) ∧ (k : Int) < (S.l.length : Int) := by omega
  clear hst hks hm hc hyo HIO hx hy htop hkl hdA hop hyop hya hbq hb1 ht1
  go_enter Tryz.func58, Tryz.ntmps58
  go_wp2_with (first
    | (go_at_call 90; (with_reducible refine (L0.out _ T0.out).mono ?_); rintro en w1 ⟨rfl, h1⟩; have T1 := Lib.hid h1; clear h1 L0)
    | (go_at_call 90; (with_reducible refine (L1.out _ T1.out).mono ?_); rintro en w2 ⟨rfl, h2⟩
       have T2 := Lib.hid h2
       obtain ⟨f0, f1, f2⟩ := h2.row
       obtain ⟨x0, x1, x2, x3, x4⟩ := IX.out _ h2
       obtain ⟨y0, y1, y2, y3, y4⟩ := IY.out _ h2
       obtain ⟨z1, z2, z3, z4, _⟩ := h2.size
       clear h2 L1)
    | (go_at_call 91; (with_reducible refine (HK.out _).mono ?_); rintro en w3 ⟨rfl, hb⟩
       have T3 := Lib.hid ((T2.out.alloc _).next hb)
       have R3 := Lib.hid ((Row.made w2 50 [.int .i64 35, .int .i64 x.a, .int .i64 x.b, .string x.text, .int .i64 x.pos]).below hb (Row.made w2 50 _).lt)
       clear f0 f1 f2 x0 x1 x2 x3 x4 y0 y1 y2 y3 y4 z1 z2 z3 z4
       obtain ⟨f0, f1, f2⟩ := T3.out.row
       obtain ⟨y0, y1, y2, y3, y4⟩ := IY.out _ T3.out
       obtain ⟨z1, z2, z3, z4, _⟩ := T3.out.size
       have zr := R3.out.lt
       have i0 := R3.out.cell 0
       have i1 := R3.out.cell 1
       have i3 := R3.out.cell 3
       have i4 := R3.out.cell 4
       clear hb HK))
  obtain ⟨w4, T4, e⟩ : ∃ w4, St w0 B0 Bk gF gl cl gm go S w4 ∧ w3.alloc (.cells #[.int .i64 kdA, .string tdA, .int .i64 ndA, .int .u64 fdA, .string sdA, .int .i64 rodA, .int .i64 rfdA, .int .i64 rldA, .int .i64 rcdA, .slice padA pndA pcdA, .slice iadA iNdA icdA] 131) = w4 := ⟨_, T3.out.alloc _, rfl⟩
  rw [e]
  clear e f0 f1 f2 y0 y1 y2 y3 y4 z1 z2 z3 z4 i0 i1 i3 i4
  obtain ⟨f0, f1, f2⟩ := T4.row
  have m0 := HBK.out _ T4
  obtain ⟨m1, mf⟩ := HBT.out _ T4
  replace T4 := Lib.hid T4
  have mf2 := mf
  go_region
  all_goals
    obtain ⟨w7, T7, e⟩ : ∃ w7, Hid (St w0 B0 Bk gF gl cl gm go ⟨S.l, S.mark.set (top + 1) bq, S.out, S.ks⟩ w7) ∧ (w4.setCell ⟨gm, top + 1, none⟩ (.bool bq)).drew = w7 := ⟨_, Lib.hid (T4.out.mark_ (top + 1) _).drew, rfl⟩
    rw [e]
    clear e f0 f1 f2 m0 m1 mf mf2
    go_wp2_with (go_at_call 94; refine (HD.out _ T7.out).mono ?_; rintro en w8 ⟨rfl, h8⟩; have T8 := Lib.hid h8; clear h8)
    go_ret
    exact ⟨rfl, by rw [← HFIN.out]; exact T8.out⟩
end Go.Proofs.YtmecmlpoallpcaaGreatDoor
