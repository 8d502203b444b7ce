/- Texts of this proof, put together: FoldG, FoldH. -/
import Derived.Test.YtmecmlpoallpcaaGreatDoorM32
import Derived.Deep.RegionHeld3
import Derived.StillTailTactics
import Derived.Laws.Closers25b
set_option linter.unusedSimpArgs false
/- peep.folder.folds: an operation on two constants: what comes of it. (Printed by gen_foldc.py.) -/
namespace Go.Proofs.YtmecmlpoallpcaaGreatDoor
set_option linter.unusedVariables false
open Go.RowKit Go.Proofs.PeepPlain


set_option maxRecDepth 200000 in
set_option maxHeartbeats 8000000 in
theorem folds_bi_no (w0 w : World) (B0 Bk gF gl cl gm go : Nat) (S : FSt) (hst : St w0 B0 Bk gF gl cl gm go S w) (hl : S.l.length ≤ 100000) (top k j : Nat) (r : List Nat) (hks : S.ks = top :: k :: j :: r) (hm : S.mark.getD top false = false) (HIO : ∀ i, i < S.l.length → InsOk (S.l.getD i default)) (a : Cst) (hc : cstOf (S.l.getD k default) = some a) (b : Cst) (hcj : cstOf (S.l.getD j default) = some b) (hop : (S.l.getD top default).op = 19) (hmk : S.mark.getD k false = false) (hs : (S.l.getD top default).text.size ≤ 2000000) (hG : ∀ wx, Below B0 w0 wx → GlobP wx ∧ OwnG wx) (hbi : biOf (S.l.getD top default).text b a = none) : Calls Tryz.prog 58 #[.pointer (some ⟨gF, 0, none⟩)] w fun e w' => e = .returned (.bool false) ∧ St w0 B0 Bk gF gl cl gm go S w' := by
  have htop : top < S.l.length := hst.ks top (by rw [hks]; simp)
  have hkl : k < S.l.length := hst.ks k (by rw [hks]; simp)
  have T0 := Lib.hid hst
  have L0 := Lib.hid (fun (wx : World) (h : St w0 B0 Bk gF gl cl gm go S wx) => (show Calls Tryz.prog 90 #[.pointer (some ⟨gF, 0, none⟩), .int .i64 0, .bool true] wx fun e w' => e = .returned (.tuple #[.int .i64 (top : Nat), .bool true]) ∧ St w0 B0 Bk gF gl cl gm go S w' from by
    have := last_st h hl 0 (by omega) true
    rw [show lastV S 0 true = .tuple #[.int .i64 (top : Nat), .bool true] from by unfold lastV; rw [hks]; show (if (true && S.mark.getD top false) = true then _ else _) = _; rw [hm]; rfl] at this
    exact this))
  have L1 := Lib.hid (fun (wx : World) (h : St w0 B0 Bk gF gl cl gm go S wx) => (show Calls Tryz.prog 90 #[.pointer (some ⟨gF, 0, none⟩), .int .i64 1, .bool false] wx fun e w' => e = .returned (.tuple #[.int .i64 (k : Nat), .bool true]) ∧ St w0 B0 Bk gF gl cl gm go S w' from by
    have := last_st h hl 1 (by omega) false
    rw [show lastV S 1 false = .tuple #[.int .i64 (k : Nat), .bool true] from by unfold lastV; rw [hks]; rfl] at this
    exact this))
  obtain ⟨x, hx⟩ : ∃ x, S.l.getD top default = x := ⟨_, rfl⟩
  obtain ⟨y, hy⟩ : ∃ y, S.l.getD k default = y := ⟨_, rfl⟩
  have hyo : InsOk y := hy ▸ HIO k hkl
  have IX := Lib.hid (fun (wx : World) (h : St w0 B0 Bk gF gl cl gm go S wx) => by have := h.ins htop; rw [hx] at this; exact this)
  have IY := Lib.hid (fun (wx : World) (h : St w0 B0 Bk gF gl cl gm go S wx) => by have := h.ins hkl; rw [hy] at this; exact this)
  rw [hy] at hc
  rw [hx] at hop
  obtain ⟨dA, hdA⟩ : ∃ d, datOf a = d := ⟨_, rfl⟩
  have HK := Lib.hid (fun wx => (show Calls Tryz.prog 91 #[insV y] wx fun e w' => e = .returned (.tuple #[dA.val, .bool true]) ∧ Below wx.heap.size wx w' from by have := constant_walk y hyo wx; rw [hc] at this; rw [← hdA]; exact this))
  have hjl : j < S.l.length := hst.ks j (by rw [hks]; simp)
  obtain ⟨u, hu⟩ : ∃ u, S.l.getD j default = u := ⟨_, rfl⟩
  have huo : InsOk u := hu ▸ HIO j hjl
  have IJ := Lib.hid (fun (wx : World) (h : St w0 B0 Bk gF gl cl gm go S wx) => by have := h.ins hjl; rw [hu] at this; exact this)
  have bj : (0 : Int) ≤ (j : Int) ∧ (j : Int) < (S.l.length : Int) := by omega
  rw [hu] at hcj
  rw [hx] at hs
  obtain ⟨dB, hdB⟩ : ∃ e, datOf b = e := ⟨_, rfl⟩
  have HKJ := Lib.hid (fun wx => (show Calls Tryz.prog 91 #[insV u] wx fun e w' => e = .returned (.tuple #[dB.val, .bool true]) ∧ Below wx.heap.size wx w' from by have := constant_walk u huo wx; rw [hcj] at this; rw [← hdB]; exact this))
  have hca := cst_ok hyo hc
  have hcb := cst_ok huo hcj
  rw [hx] at hbi
  have HBI := Lib.hid (fun wx (hb : Below B0 w0 wx) => (show Calls Tryz.prog 95 #[.string x.text, dB.val, dA.val] wx fun e w' => (∃ d : Dat, e = .returned (.tuple #[d.val, .bool false])) ∧ Below wx.heap.size wx w' from by have := binary_walk x.text hs b a hcb hca wx (hG wx hb).1 (hG wx hb).2; rw [hbi, hdA, hdB] at this; exact this))
  have L2 := Lib.hid (fun (wx : World) (h : St w0 B0 Bk gF gl cl gm go S wx) => (show Calls Tryz.prog 90 #[.pointer (some ⟨gF, 0, none⟩), .int .i64 2, .bool false] wx fun e w' => e = .returned (.tuple #[.int .i64 (j : Nat), .bool true]) ∧ St w0 B0 Bk gF gl cl gm go S w' ∧ Below wx.heap.size wx w' from by
    have := last_st2 h hl 2 (by omega) false
    rw [show lastV S 2 false = .tuple #[.int .i64 (j : Nat), .bool true] from by unfold lastV; rw [hks]; rfl] at this
    exact this))
  have L3 := Lib.hid (fun (wx : World) (h : St w0 B0 Bk gF gl cl gm go S wx) => (show Calls Tryz.prog 90 #[.pointer (some ⟨gF, 0, none⟩), .int .i64 1, .bool true] wx fun e w' => e = .returned (.tuple #[.int .i64 (k : Nat), .bool true]) ∧ St w0 B0 Bk gF gl cl gm go S w' ∧ Below wx.heap.size wx w' from by
    have := last_st2 h hl 1 (by omega) true
    rw [show lastV S 1 true = .tuple #[.int .i64 (k : Nat), .bool true] from by unfold lastV; rw [hks]; show (if (true && S.mark.getD k false) = true then _ else _) = _; rw [hmk]; rfl] at this
    exact this))
  obtain ⟨kdA, tdA, ndA, fdA, sdA, rodA, rfdA, rldA, rcdA, padA, pndA, pcdA, iadA, iNdA, icdA⟩ := dA
  obtain ⟨kdB, tdB, ndB, fdB, sdB, rodB, rfdB, rldB, rcdB, padB, pndB, pcdB, iadB, iNdB, icdB⟩ := dB
  simp only [insV, Dat.val] at HK HKJ HBI
  rw [hop] at IX
  have bt : (0 : Int) ≤ (top : Int) ∧ (top : Int) < (S.l.length : Int) := by omega
  have bk : (0 : Int) ≤ (k : Int) ∧ (k : Int) < (S.l.length : Int) := by omega
  clear hst hks hm hc hyo HIO hx hy htop hkl hdA hop hmk hjl hu huo hcj hs hdB hca hcb hG hbi
  go_enter Tryz.func58, Tryz.ntmps58
  go_wp2_with (first
    | (go_at_call 90; (with_reducible refine (L0.out _ T0.out).mono ?_); rintro en w1 ⟨rfl, h1⟩; have T1 := Lib.hid h1; clear h1 L0)
    | (go_at_call 90; (with_reducible refine (L1.out _ T1.out).mono ?_); rintro en w2 ⟨rfl, h2⟩
       have T2 := Lib.hid h2
       obtain ⟨f0, f1, f2⟩ := h2.row
       obtain ⟨x0, x1, x2, x3, x4⟩ := IX.out _ h2
       obtain ⟨y0, y1, y2, y3, y4⟩ := IY.out _ h2
       obtain ⟨z1, z2, z3, z4, _⟩ := h2.size
       clear h2 L1)
    | (go_at_call 91; (with_reducible refine (HK.out _).mono ?_); rintro en w3 ⟨rfl, hb⟩
       have T3 := Lib.hid ((T2.out.alloc _).next hb)
       have R3 := Lib.hid ((Row.made w2 50 [.int .i64 19, .int .i64 x.a, .int .i64 x.b, .string x.text, .int .i64 x.pos]).below hb (Row.made w2 50 _).lt)
       clear f0 f1 f2 x0 x1 x2 x3 x4 y0 y1 y2 y3 y4 z1 z2 z3 z4
       obtain ⟨f0, f1, f2⟩ := T3.out.row
       obtain ⟨y0, y1, y2, y3, y4⟩ := IY.out _ T3.out
       obtain ⟨z1, z2, z3, z4, _⟩ := T3.out.size
       have zr := R3.out.lt
       have i0 := R3.out.cell 0
       have i1 := R3.out.cell 1
       have i3 := R3.out.cell 3
       have i4 := R3.out.cell 4
       clear hb HK)
    | (go_at_call 90; (with_reducible refine (L2.out _ (T3.out.alloc _)).mono ?_); rintro en w4 ⟨rfl, h4, hb⟩
       have T4 := Lib.hid h4
       have R4 := Lib.hid ((R3.out.alloc _).below hb (R3.out.alloc _).lt)
       have Q4 := Lib.hid ((Row.made w3 131 [.int .i64 kdA, .string tdA, .int .i64 ndA, .int .u64 fdA, .string sdA, .int .i64 rodA, .int .i64 rfdA, .int .i64 rldA, .int .i64 rcdA, .slice padA pndA pcdA, .slice iadA iNdA icdA]).below hb (Row.made w3 131 [.int .i64 kdA, .string tdA, .int .i64 ndA, .int .u64 fdA, .string sdA, .int .i64 rodA, .int .i64 rfdA, .int .i64 rldA, .int .i64 rcdA, .slice padA pndA pcdA, .slice iadA iNdA icdA]).lt)
       clear f0 f1 f2 y0 y1 y2 y3 y4 z1 z2 z3 z4 zr i0 i1 i3 i4
       obtain ⟨f0, f1, f2⟩ := h4.row
       obtain ⟨z1, z2, z3, z4, _⟩ := h4.size
       have zr := R4.out.lt
       have zq := Q4.out.lt
       have i3 := R4.out.cell 3
       obtain ⟨j0, j1, j2, j3, j4⟩ := IJ.out _ h4
       clear h4 hb L2)
    | (go_at_call 90; (with_reducible refine (L3.out _ T4.out).mono ?_); rintro en w5 ⟨rfl, h5, hb⟩
       have T5 := Lib.hid h5
       have R5 := Lib.hid ((R4.out).below hb (R4.out).lt)
       have Q5 := Lib.hid ((Q4.out).below hb (Q4.out).lt)
       clear f0 f1 f2 z1 z2 z3 z4 zr zq i3 j0 j1 j2 j3 j4
       obtain ⟨f0, f1, f2⟩ := h5.row
       obtain ⟨z1, z2, z3, z4, _⟩ := h5.size
       have zr := R5.out.lt
       have zq := Q5.out.lt
       have i3 := R5.out.cell 3
       obtain ⟨j0, j1, j2, j3, j4⟩ := IJ.out _ h5
       clear h5 hb L3)
    | (go_at_call 91; (with_reducible refine (HKJ.out _).mono ?_); rintro en w6 ⟨rfl, hb⟩
       have T6 := Lib.hid (T5.out.next hb)
       have R6 := Lib.hid (R5.out.below hb R5.out.lt)
       have Q6 := Lib.hid (Q5.out.below hb Q5.out.lt)
       clear f0 f1 f2 z1 z2 z3 z4 zr zq i3 j0 j1 j2 j3 j4
       have zr := R6.out.lt
       have zq := Q6.out.lt
       have i3 := R6.out.cell 3
       obtain ⟨q_0, q_1, q_2, q_3, q_4, q_5, q_6, q_7, q_8, q_9, q_10, _⟩ := row11 Q6.out
       clear hb HKJ)
    | (go_at_call 95; (with_reducible refine (HBI.out _ ?hb).mono ?_)
       case hb => exact (T6.out.alloc _).below
       rintro en w7 ⟨⟨d2, rfl⟩, hb⟩
       obtain ⟨kdC, tdC, ndC, fdC, sdC, rodC, rfdC, rldC, rcdC, padC, pndC, pcdC, iadC, iNdC, icdC⟩ := d2
       have T7 := Lib.hid ((T6.out.alloc _).next hb)
       clear hb HBI))
  go_ret
  exact ⟨rfl, T7.out.alloc _⟩

set_option maxRecDepth 200000 in
set_option maxHeartbeats 8000000 in
theorem folds_bi_yes (w0 w : World) (B0 Bk gF gl cl gm go : Nat) (S : FSt) (hst : St w0 B0 Bk gF gl cl gm go S w) (hl : S.l.length ≤ 100000) (top k j : Nat) (r : List Nat) (hks : S.ks = top :: k :: j :: r) (hm : S.mark.getD top false = false) (HIO : ∀ i, i < S.l.length → InsOk (S.l.getD i default)) (a : Cst) (hc : cstOf (S.l.getD k default) = some a) (b : Cst) (hcj : cstOf (S.l.getD j default) = some b) (hop : (S.l.getD top default).op = 19) (hmk : S.mark.getD k false = false) (hs : (S.l.getD top default).text.size ≤ 2000000) (hG : ∀ wx, Below B0 w0 wx → GlobP wx ∧ OwnG wx) (d : Cst) (hd : CstOk d) (hbi : biOf (S.l.getD top default).text b a = some d) : Calls Tryz.prog 58 #[.pointer (some ⟨gF, 0, none⟩)] w fun e w' => e = .returned (.bool true) ∧ St w0 B0 Bk gF gl cl gm go ⟨S.l.set j (layOf d (S.l.getD j default).pos), S.mark, (S.out.set top true).set k true, j :: r⟩ w' := by
  have htop : top < S.l.length := hst.ks top (by rw [hks]; simp)
  have hkl : k < S.l.length := hst.ks k (by rw [hks]; simp)
  have T0 := Lib.hid hst
  have L0 := Lib.hid (fun (wx : World) (h : St w0 B0 Bk gF gl cl gm go S wx) => (show Calls Tryz.prog 90 #[.pointer (some ⟨gF, 0, none⟩), .int .i64 0, .bool true] wx fun e w' => e = .returned (.tuple #[.int .i64 (top : Nat), .bool true]) ∧ St w0 B0 Bk gF gl cl gm go S w' from by
    have := last_st h hl 0 (by omega) true
    rw [show lastV S 0 true = .tuple #[.int .i64 (top : Nat), .bool true] from by unfold lastV; rw [hks]; show (if (true && S.mark.getD top false) = true then _ else _) = _; rw [hm]; rfl] at this
    exact this))
  have L1 := Lib.hid (fun (wx : World) (h : St w0 B0 Bk gF gl cl gm go S wx) => (show Calls Tryz.prog 90 #[.pointer (some ⟨gF, 0, none⟩), .int .i64 1, .bool false] wx fun e w' => e = .returned (.tuple #[.int .i64 (k : Nat), .bool true]) ∧ St w0 B0 Bk gF gl cl gm go S w' from by
    have := last_st h hl 1 (by omega) false
    rw [show lastV S 1 false = .tuple #[.int .i64 (k : Nat), .bool true] from by unfold lastV; rw [hks]; rfl] at this
    exact this))
  obtain ⟨x, hx⟩ : ∃ x, S.l.getD top default = x := ⟨_, rfl⟩
  obtain ⟨y, hy⟩ : ∃ y, S.l.getD k default = y := ⟨_, rfl⟩
  have hyo : InsOk y := hy ▸ HIO k hkl
  have IX := Lib.hid (fun (wx : World) (h : St w0 B0 Bk gF gl cl gm go S wx) => by have := h.ins htop; rw [hx] at this; exact this)
  have IY := Lib.hid (fun (wx : World) (h : St w0 B0 Bk gF gl cl gm go S wx) => by have := h.ins hkl; rw [hy] at this; exact this)
  rw [hy] at hc
  rw [hx] at hop
  obtain ⟨dA, hdA⟩ : ∃ d, datOf a = d := ⟨_, rfl⟩
  have HK := Lib.hid (fun wx => (show Calls Tryz.prog 91 #[insV y] wx fun e w' => e = .returned (.tuple #[dA.val, .bool true]) ∧ Below wx.heap.size wx w' from by have := constant_walk y hyo wx; rw [hc] at this; rw [← hdA]; exact this))
  have hjl : j < S.l.length := hst.ks j (by rw [hks]; simp)
  obtain ⟨u, hu⟩ : ∃ u, S.l.getD j default = u := ⟨_, rfl⟩
  have huo : InsOk u := hu ▸ HIO j hjl
  have IJ := Lib.hid (fun (wx : World) (h : St w0 B0 Bk gF gl cl gm go S wx) => by have := h.ins hjl; rw [hu] at this; exact this)
  have bj : (0 : Int) ≤ (j : Int) ∧ (j : Int) < (S.l.length : Int) := by omega
  rw [hu] at hcj
  rw [hx] at hs
  obtain ⟨dB, hdB⟩ : ∃ e, datOf b = e := ⟨_, rfl⟩
  have HKJ := Lib.hid (fun wx => (show Calls Tryz.prog 91 #[insV u] wx fun e w' => e = .returned (.tuple #[dB.val, .bool true]) ∧ Below wx.heap.size wx w' from by have := constant_walk u huo wx; rw [hcj] at this; rw [← hdB]; exact this))
  have hca := cst_ok hyo hc
  have hcb := cst_ok huo hcj
  rw [hx] at hbi
  rw [hu]
  obtain ⟨dC, hdC⟩ : ∃ e, datOf d = e := ⟨_, rfl⟩
  obtain ⟨z, hz⟩ : ∃ z, layOf d u.pos = z := ⟨_, rfl⟩
  have HBI := Lib.hid (fun wx (hb : Below B0 w0 wx) => (show Calls Tryz.prog 95 #[.string x.text, dB.val, dA.val] wx fun e w' => e = .returned (.tuple #[dC.val, .bool true]) ∧ Below wx.heap.size wx w' from by have := binary_walk x.text hs b a hcb hca wx (hG wx hb).1 (hG wx hb).2; rw [hbi, hdA, hdB] at this; rw [← hdC]; exact this))
  have HLY := Lib.hid (fun wx (hb : Below B0 w0 wx) => (show Calls Tryz.prog 93 #[dC.val, .int .i64 u.pos] wx fun e w' => e = .returned (insV z) ∧ Below wx.heap.size wx w' from by have := lays_walk d hd u.pos wx (hG wx hb).1; rw [hdC, hz] at this; exact this))
  have HD := Lib.hid (fun (wx : World) (h : St w0 B0 Bk gF gl cl gm go ⟨S.l.set j z, S.mark, S.out, S.ks⟩ wx) => drop_st h (by show (S.l.set j z).length ≤ _; rw [List.length_set]; exact hl) 2 (by show 2 ≤ S.ks.length; rw [hks]; simp))
  have HFIN : Hid (dropN 2 ⟨S.l.set j z, S.mark, S.out, S.ks⟩ = ⟨S.l.set j z, S.mark, (S.out.set top true).set k true, j :: r⟩) := Lib.hid (by rw [hks]; rfl)
  have HKL := Lib.hid hjl
  have L2 := Lib.hid (fun (wx : World) (h : St w0 B0 Bk gF gl cl gm go S wx) => (show Calls Tryz.prog 90 #[.pointer (some ⟨gF, 0, none⟩), .int .i64 2, .bool false] wx fun e w' => e = .returned (.tuple #[.int .i64 (j : Nat), .bool true]) ∧ St w0 B0 Bk gF gl cl gm go S w' ∧ Below wx.heap.size wx w' from by
    have := last_st2 h hl 2 (by omega) false
    rw [show lastV S 2 false = .tuple #[.int .i64 (j : Nat), .bool true] from by unfold lastV; rw [hks]; rfl] at this
    exact this))
  have L3 := Lib.hid (fun (wx : World) (h : St w0 B0 Bk gF gl cl gm go S wx) => (show Calls Tryz.prog 90 #[.pointer (some ⟨gF, 0, none⟩), .int .i64 1, .bool true] wx fun e w' => e = .returned (.tuple #[.int .i64 (k : Nat), .bool true]) ∧ St w0 B0 Bk gF gl cl gm go S w' ∧ Below wx.heap.size wx w' from by
    have := last_st2 h hl 1 (by omega) true
    rw [show lastV S 1 true = .tuple #[.int .i64 (k : Nat), .bool true] from by unfold lastV; rw [hks]; show (if (true && S.mark.getD k false) = true then _ else _) = _; rw [hmk]; rfl] at this
    exact this))
  rw [hz]
  have hzp : z.pos = u.pos := by rw [← hz]; cases d <;> rfl
  have HZP := Lib.hid hzp
  obtain ⟨kdA, tdA, ndA, fdA, sdA, rodA, rfdA, rldA, rcdA, padA, pndA, pcdA, iadA, iNdA, icdA⟩ := dA
  obtain ⟨kdB, tdB, ndB, fdB, sdB, rodB, rfdB, rldB, rcdB, padB, pndB, pcdB, iadB, iNdB, icdB⟩ := dB
  obtain ⟨kdC, tdC, ndC, fdC, sdC, rodC, rfdC, rldC, rcdC, padC, pndC, pcdC, iadC, iNdC, icdC⟩ := dC
  simp only [insV, Dat.val] at HK HKJ HBI HLY
  rw [hzp] at HLY
  rw [hop] at IX
  have bt : (0 : Int) ≤ (top : Int) ∧ (top : Int) < (S.l.length : Int) := by omega
  have bk : (0 : Int) ≤ (k : Int) ∧ (k : Int) < (S.l.length : Int) := by omega
  clear hst hks hm hc hyo HIO hx hy htop hkl hdA hop hmk hjl hu huo hcj hs hdB hca hcb hG hbi hdC hz hzp
  go_enter Tryz.func58, Tryz.ntmps58
  go_wp2_with (first
    | (go_at_call 90; (with_reducible refine (L0.out _ T0.out).mono ?_); rintro en w1 ⟨rfl, h1⟩; have T1 := Lib.hid h1; clear h1 L0)
    | (go_at_call 90; (with_reducible refine (L1.out _ T1.out).mono ?_); rintro en w2 ⟨rfl, h2⟩
       have T2 := Lib.hid h2
       obtain ⟨f0, f1, f2⟩ := h2.row
       obtain ⟨x0, x1, x2, x3, x4⟩ := IX.out _ h2
       obtain ⟨y0, y1, y2, y3, y4⟩ := IY.out _ h2
       obtain ⟨z1, z2, z3, z4, _⟩ := h2.size
       clear h2 L1)
    | (go_at_call 91; (with_reducible refine (HK.out _).mono ?_); rintro en w3 ⟨rfl, hb⟩
       have T3 := Lib.hid ((T2.out.alloc _).next hb)
       have R3 := Lib.hid ((Row.made w2 50 [.int .i64 19, .int .i64 x.a, .int .i64 x.b, .string x.text, .int .i64 x.pos]).below hb (Row.made w2 50 _).lt)
       clear f0 f1 f2 x0 x1 x2 x3 x4 y0 y1 y2 y3 y4 z1 z2 z3 z4
       obtain ⟨f0, f1, f2⟩ := T3.out.row
       obtain ⟨y0, y1, y2, y3, y4⟩ := IY.out _ T3.out
       obtain ⟨z1, z2, z3, z4, _⟩ := T3.out.size
       have zr := R3.out.lt
       have i0 := R3.out.cell 0
       have i1 := R3.out.cell 1
       have i3 := R3.out.cell 3
       have i4 := R3.out.cell 4
       clear hb HK)
    | (go_at_call 90; (with_reducible refine (L2.out _ (T3.out.alloc _)).mono ?_); rintro en w4 ⟨rfl, h4, hb⟩
       have T4 := Lib.hid h4
       have R4 := Lib.hid ((R3.out.alloc _).below hb (R3.out.alloc _).lt)
       have Q4 := Lib.hid ((Row.made w3 131 [.int .i64 kdA, .string tdA, .int .i64 ndA, .int .u64 fdA, .string sdA, .int .i64 rodA, .int .i64 rfdA, .int .i64 rldA, .int .i64 rcdA, .slice padA pndA pcdA, .slice iadA iNdA icdA]).below hb (Row.made w3 131 [.int .i64 kdA, .string tdA, .int .i64 ndA, .int .u64 fdA, .string sdA, .int .i64 rodA, .int .i64 rfdA, .int .i64 rldA, .int .i64 rcdA, .slice padA pndA pcdA, .slice iadA iNdA icdA]).lt)
       clear f0 f1 f2 y0 y1 y2 y3 y4 z1 z2 z3 z4 zr i0 i1 i3 i4
       obtain ⟨f0, f1, f2⟩ := h4.row
       obtain ⟨z1, z2, z3, z4, _⟩ := h4.size
       have zr := R4.out.lt
       have zq := Q4.out.lt
       have i3 := R4.out.cell 3
       obtain ⟨j0, j1, j2, j3, j4⟩ := IJ.out _ h4
       clear h4 hb L2)
    | (go_at_call 90; (with_reducible refine (L3.out _ T4.out).mono ?_); rintro en w5 ⟨rfl, h5, hb⟩
       have T5 := Lib.hid h5
       have R5 := Lib.hid ((R4.out).below hb (R4.out).lt)
       have Q5 := Lib.hid ((Q4.out).below hb (Q4.out).lt)
       clear f0 f1 f2 z1 z2 z3 z4 zr zq i3 j0 j1 j2 j3 j4
       obtain ⟨f0, f1, f2⟩ := h5.row
       obtain ⟨z1, z2, z3, z4, _⟩ := h5.size
       have zr := R5.out.lt
       have zq := Q5.out.lt
       have i3 := R5.out.cell 3
       obtain ⟨j0, j1, j2, j3, j4⟩ := IJ.out _ h5
       clear h5 hb L3)
    | (go_at_call 91; (with_reducible refine (HKJ.out _).mono ?_); rintro en w6 ⟨rfl, hb⟩
       have T6 := Lib.hid (T5.out.next hb)
       have R6 := Lib.hid (R5.out.below hb R5.out.lt)
       have Q6 := Lib.hid (Q5.out.below hb Q5.out.lt)
       clear f0 f1 f2 z1 z2 z3 z4 zr zq i3 j0 j1 j2 j3 j4
       have zr := R6.out.lt
       have zq := Q6.out.lt
       have i3 := R6.out.cell 3
       obtain ⟨q_0, q_1, q_2, q_3, q_4, q_5, q_6, q_7, q_8, q_9, q_10, _⟩ := row11 Q6.out
       clear hb HKJ)
    | (go_at_call 95; (with_reducible refine (HBI.out _ ?hb).mono ?_)
       case hb => exact (T6.out.alloc _).below
       rintro en w7 ⟨rfl, hb⟩
       have T7 := Lib.hid ((T6.out.alloc _).next hb)
       clear hb HBI zr zq i3 q_0 q_1 q_2 q_3 q_4 q_5 q_6 q_7 q_8 q_9 q_10))
  obtain ⟨w5, R5, T5, e⟩ : ∃ w5, Row w5 w7.heap.size 131 [.int .i64 kdC, .string tdC, .int .i64 ndC, .int .u64 fdC, .string sdC, .int .i64 rodC, .int .i64 rfdC, .int .i64 rldC, .int .i64 rcdC, .slice padC pndC pcdC, .slice iadC iNdC icdC] ∧ St w0 B0 Bk gF gl cl gm go S w5 ∧ w7.alloc (.cells #[.int .i64 kdC, .string tdC, .int .i64 ndC, .int .u64 fdC, .string sdC, .int .i64 rodC, .int .i64 rfdC, .int .i64 rldC, .int .i64 rcdC, .slice padC pndC pcdC, .slice iadC iNdC icdC] 131) = w5 := ⟨_, Row.made w7 131 _, T7.out.alloc _, rfl⟩
  rw [e]
  clear e
  obtain ⟨f0, f1, f2⟩ := T5.row
  obtain ⟨y0, y1, y2, y3, y4⟩ := IJ.out _ T5
  obtain ⟨z1, z2, z3, z4, _⟩ := T5.size
  have hz5 := R5.lt
  have hn1 : gF ≠ gl := T5.apart
  have hn2 : w7.heap.size ≠ gl := by have := T7.out.size; omega
  have hn3 : gl ≠ gF := Ne.symm hn1
  have hn4 : gl ≠ w7.heap.size := Ne.symm hn2
  obtain ⟨q_0, q_1, q_2, q_3, q_4, q_5, q_6, q_7, q_8, q_9, q_10, kf⟩ := row11 R5
  have hfr := T5.free
  replace T5 := Lib.hid T5
  replace R5 := Lib.hid R5
  go_region_held3 (fun w' => w'.cell? ⟨gF, 0, none⟩ = some (.slice (some ⟨gl, 0, none⟩) S.l.length cl) ∧ w'.cell? ⟨gl, j * 5 + 4, none⟩ = some (.int .i64 u.pos) ∧ w'.cell? ⟨w7.heap.size, 0, none⟩ = some (.int .i64 kdC) ∧ w'.cell? ⟨w7.heap.size, 1, none⟩ = some (.string tdC) ∧ w'.cell? ⟨w7.heap.size, 2, none⟩ = some (.int .i64 ndC) ∧ w'.cell? ⟨w7.heap.size, 3, none⟩ = some (.int .u64 fdC) ∧ w'.cell? ⟨w7.heap.size, 4, none⟩ = some (.string sdC) ∧ w'.cell? ⟨w7.heap.size, 5, none⟩ = some (.int .i64 rodC) ∧ w'.cell? ⟨w7.heap.size, 6, none⟩ = some (.int .i64 rfdC) ∧ w'.cell? ⟨w7.heap.size, 7, none⟩ = some (.int .i64 rldC) ∧ w'.cell? ⟨w7.heap.size, 8, none⟩ = some (.int .i64 rcdC) ∧ w'.cell? ⟨w7.heap.size, 9, none⟩ = some (.slice padC pndC pcdC) ∧ w'.cell? ⟨w7.heap.size, 10, none⟩ = some (.slice iadC iNdC icdC))
    (first | (with_reducible exact ⟨f0, y4, q_0, q_1, q_2, q_3, q_4, q_5, q_6, q_7, q_8, q_9, q_10⟩) | (with_reducible exact ⟨far5 (i := j * 5) hn1 f0, St.pos5 T6.out HKL.out _ _ _ _ _, far5 (i := j * 5) hn2 q_0, far5 (i := j * 5) hn2 q_1, far5 (i := j * 5) hn2 q_2, far5 (i := j * 5) hn2 q_3, far5 (i := j * 5) hn2 q_4, far5 (i := j * 5) hn2 q_5, far5 (i := j * 5) hn2 q_6, far5 (i := j * 5) hn2 q_7, far5 (i := j * 5) hn2 q_8, far5 (i := j * 5) hn2 q_9, far5 (i := j * 5) hn2 q_10⟩) | go_keep)
    (first
    | (go_at_call 93; (with_reducible refine (HLY.out _ ?hb).mono ?_)
       case hb => exact T5.out.drew.below
       rintro en w6 ⟨rfl, hb⟩
       have T6 := Lib.hid (T5.out.drew.next hb)
       have R6 := Lib.hid (R5.out.drew.below hb R5.out.drew.lt)
       clear f0 f1 f2 y0 y1 y2 y3 y4 q_0 q_1 q_2 q_3 q_4 q_5 q_6 q_7 q_8 q_9 q_10 kf hfr
       obtain ⟨f0, f1, f2⟩ := T6.out.row
       obtain ⟨y0, y1, y2, y3, y4⟩ := IJ.out _ T6.out
       obtain ⟨q_0, q_1, q_2, q_3, q_4, q_5, q_6, q_7, q_8, q_9, q_10, kf⟩ := row11 R6.out
       have hfr := T6.out.free
       clear hb HLY T5 R5))
  obtain ⟨w7, T7, e⟩ : ∃ w7, Hid (St w0 B0 Bk gF gl cl gm go ⟨S.l.set j z, S.mark, S.out, S.ks⟩ w7) ∧ put5 w6 gl (j * 5) z = w7 := ⟨_, Lib.hid (T6.out.put HKL.out z), rfl⟩
  unfold put5 at e
  rw [HZP.out] at e
  rw [e]
  clear e f0 f1 f2 y0 y1 y2 y3 y4 q_0 q_1 q_2 q_3 q_4 q_5 q_6 q_7 q_8 q_9 q_10 kf hfr
  go_wp2_with (go_at_call 94; refine (HD.out _ T7.out).mono ?_; rintro en w8 ⟨rfl, h8⟩; have T8 := Lib.hid h8; clear h8)
  go_ret
  exact ⟨rfl, by rw [← HFIN.out]; exact T8.out⟩
end Go.Proofs.YtmecmlpoallpcaaGreatDoor

/- peep.folder.folds: its contract. -/
namespace Go.Proofs.YtmecmlpoallpcaaGreatDoor
set_option linter.unusedVariables false
open Go.RowKit Go.Proofs.PeepPlain

theorem bits_ok (op : BinOp) (n m : Int) : CstOk (.int (bits op .i64 n m)) := ⟨bits_lo_i64 op n m, bits_hi_i64 op n m⟩
theorem unOf_ok {op : ByteArray} {a d : Cst} (h : unOf op a = some d) : CstOk d := by
  cases a with
  | int n =>
    have h : (if op.toList = [43, 43] then some (Cst.int (wrap64 (n + 1))) else if op.toList = [45, 45] then some (.int (wrap64 (n - 1))) else if op.toList = [45] then some (.int (wrap64 (-n))) else if op.toList = [94] then some (.int (bits BinOp.xor .i64 (-1) n)) else none) = some d := h
    by_cases h1 : op.toList = [43, 43]
    · rw [if_pos h1] at h; injection h with h; subst h; exact wrap_ok _
    rw [if_neg h1] at h
    by_cases h2 : op.toList = [45, 45]
    · rw [if_pos h2] at h; injection h with h; subst h; exact wrap_ok _
    rw [if_neg h2] at h
    by_cases h3 : op.toList = [45]
    · rw [if_pos h3] at h; injection h with h; subst h; exact wrap_ok _
    rw [if_neg h3] at h
    by_cases h4 : op.toList = [94]
    · rw [if_pos h4] at h; injection h with h; subst h; exact bits_ok _ _ _
    rw [if_neg h4] at h
    cases h
  | flag n =>
    have h : (if op.toList = [43, 43] then none else if op.toList = [45, 45] then none else if op.toList = [33] then some (Cst.flag (if n = 0 then 1 else 0)) else none) = some d := h
    by_cases h1 : op.toList = [43, 43]
    · rw [if_pos h1] at h; cases h
    rw [if_neg h1] at h
    by_cases h2 : op.toList = [45, 45]
    · rw [if_pos h2] at h; cases h
    rw [if_neg h2] at h
    by_cases h3 : op.toList = [33]
    · rw [if_pos h3] at h; injection h with h; subst h
      by_cases h0 : n = 0
      · rw [if_pos h0]; exact .inr rfl
      · rw [if_neg h0]; exact .inl rfl
    rw [if_neg h3] at h
    cases h
theorem div_ok {n m : Int} (hn : CstOk (.int n)) (k : Nat) : CstOk (.int (n / 2 ^ k)) := by
  obtain ⟨h0, h1⟩ := hn
  have hp : (0 : Int) < 2 ^ k := Int.pow_pos (by omega)
  have hp1 : (1 : Int) ≤ 2 ^ k := hp
  refine ⟨?_, ?_⟩
  · have : -9223372036854775808 * 2 ^ k ≤ n := by
      have : (-9223372036854775808 : Int) * 2 ^ k ≤ -9223372036854775808 * 1 := Int.mul_le_mul_of_nonpos_left (by omega) hp1
      omega
    exact (Int.le_ediv_iff_mul_le hp).2 this
  · by_cases hn0 : 0 ≤ n
    · exact Int.le_trans (Int.ediv_le_self _ hn0) h1
    · have := Int.ediv_neg_of_neg_of_pos (show n < 0 by omega) hp
      omega
theorem intsOf_ok {op : ByteArray} {n m : Int} {d : Cst} (hn : CstOk (.int n)) (h : intsOf op n m = some d) : CstOk d := by
  unfold intsOf at h
  by_cases t : op.toList = [43]
  · rw [if_pos t] at h; injection h with h; subst h; exact wrap_ok _
  rw [if_neg t] at h
  clear t
  by_cases t : op.toList = [45]
  · rw [if_pos t] at h; injection h with h; subst h; exact wrap_ok _
  rw [if_neg t] at h
  clear t
  by_cases t : op.toList = [42]
  · rw [if_pos t] at h; injection h with h; subst h; exact wrap_ok _
  rw [if_neg t] at h
  clear t
  by_cases t : op.toList = [47]
  · rw [if_pos t] at h
    by_cases z : m = 0
    · rw [if_pos z] at h; cases h
    · rw [if_neg z] at h; injection h with h; subst h
      by_cases y : m = -1
      · rw [if_pos y]; exact wrap_ok _
      · rw [if_neg y]; exact wrap_ok _
  rw [if_neg t] at h
  clear t
  by_cases t : op.toList = [37]
  · rw [if_pos t] at h
    by_cases z : m = 0
    · rw [if_pos z] at h; cases h
    · rw [if_neg z] at h; injection h with h; subst h
      by_cases y : m = -1
      · rw [if_pos y]; exact wrap_ok _
      · rw [if_neg y]; exact wrap_ok _
  rw [if_neg t] at h
  clear t
  by_cases t : op.toList = [38]
  · rw [if_pos t] at h; injection h with h; subst h; exact bits_ok _ _ _
  rw [if_neg t] at h
  clear t
  by_cases t : op.toList = [124]
  · rw [if_pos t] at h; injection h with h; subst h; exact bits_ok _ _ _
  rw [if_neg t] at h
  clear t
  by_cases t : op.toList = [94]
  · rw [if_pos t] at h; injection h with h; subst h; exact bits_ok _ _ _
  rw [if_neg t] at h
  clear t
  by_cases t : op.toList = [60, 60]
  · rw [if_pos t] at h
    by_cases z : m < 0
    · rw [if_pos z] at h; cases h
    · rw [if_neg z] at h; injection h with h; subst h; exact wrap_ok _
  rw [if_neg t] at h
  clear t
  by_cases t : op.toList = [62, 62]
  · rw [if_pos t] at h
    by_cases z : m < 0
    · rw [if_pos z] at h; cases h
    · rw [if_neg z] at h; injection h with h; subst h; exact div_ok (m := 0) hn _
  rw [if_neg t] at h
  clear t
  by_cases t : op.toList = [60, 61]
  · rw [if_pos t] at h; injection h with h; subst h; exact bit_ok _
  rw [if_neg t] at h
  clear t
  by_cases t : op.toList = [60]
  · rw [if_pos t] at h; injection h with h; subst h; exact bit_ok _
  rw [if_neg t] at h
  clear t
  by_cases t : op.toList = [62, 61]
  · rw [if_pos t] at h; injection h with h; subst h; exact bit_ok _
  rw [if_neg t] at h
  clear t
  by_cases t : op.toList = [62]
  · rw [if_pos t] at h; injection h with h; subst h; exact bit_ok _
  rw [if_neg t] at h
  clear t
  cases h
theorem biOf_ok {op : ByteArray} {b a d : Cst} (hb : CstOk b) (h : biOf op b a = some d) : CstOk d := by
  unfold biOf at h
  split at h
  · injection h with h; subst h; exact bit_ok _
  · split at h
    · injection h with h; subst h; exact bit_ok _
    · split at h
      · exact intsOf_ok hb h
      · cases h
theorem getD_bool {l : List Bool} {i : Nat} (h : i < l.length) : l.getD i true = l.getD i false := by
  rw [List.getD_eq_getElem?_getD, List.getD_eq_getElem?_getD, List.getElem?_eq_getElem h]
  rfl
theorem folds_eq {S : FSt} {top k : Nat} {r : List Nat} (hks : S.ks = top :: k :: r) (hm : S.mark.getD top true = false) : folds O0 S = (match cstOf (S.l.getD k default) with
        | none => (S, false)
        | some a =>
          if PeepPlain.opAt S.l top = 18 then
            match unOf (S.l.getD top default).text a with
            | some d => (⟨S.l.set k (layOf d (S.l.getD k default).pos), S.mark, S.out.set top true, k :: r⟩, true)
            | none => (S, false)
          else if PeepPlain.opAt S.l top = 35 then
            if PeepPlain.opAt S.l k ≠ 6 then (S, false)
            else if (S.l.getD k default).a = 1 then (⟨S.l, S.mark.set (top + 1) (S.mark.getD (top + 1) true || S.mark.getD k true), (S.out.set top true).set k true, r⟩, false)
            else (⟨S.l.set k ⟨34, (S.l.getD top default).a, 0, ⟨#[]⟩, (S.l.getD top default).pos⟩, S.mark, S.out.set top true, k :: r⟩, false)
          else if PeepPlain.opAt S.l top = 19 then
            match r with
            | j :: rest2 =>
              if S.mark.getD k true then (S, false) else
              match cstOf (S.l.getD j default) with
              | none => (S, false)
              | some b =>
                match biOf (S.l.getD top default).text b a with
                | some d => (⟨S.l.set j (layOf d (S.l.getD j default).pos), S.mark, (S.out.set top true).set k true, j :: rest2⟩, true)
                | none => (S, false)
            | [] => (S, false)
          else (S, false)) := by
  obtain ⟨l, mk, ot, ks⟩ := S
  dsimp only at hks hm ⊢
  subst hks
  unfold folds
  dsimp only
  rw [hm, if_neg (by decide)]
  simp only [O0]
  cases cstOf (l.getD k default) with
  | none => rfl
  | some a =>
    dsimp only
    cases r with
    | nil => cases unOf (l.getD top default).text a <;> rfl
    | cons j r2 =>
      dsimp only
      cases cstOf (l.getD j default) with
      | none => cases unOf (l.getD top default).text a <;> rfl
      | some b =>
        dsimp only
        cases biOf (l.getD top default).text b a <;> cases unOf (l.getD top default).text a <;> rfl
theorem folds_eq0 {S : FSt} {top k : Nat} {r : List Nat} (hks : S.ks = top :: k :: r) (hm : S.mark.getD top true = true) : folds O0 S = (S, false) := by
  obtain ⟨l, mk, ot, ks⟩ := S
  dsimp only at hks hm ⊢
  subst hks
  unfold folds
  dsimp only
  rw [hm, if_pos rfl]
/-- The contract of folds. -/
theorem folds_walk (w0 w : World) (B0 Bk gF gl cl gm go : Nat) (S : FSt) (hst : St w0 B0 Bk gF gl cl gm go S w) (hl : S.l.length ≤ 100000) (hG : ∀ wx, Below B0 w0 wx → GlobP wx ∧ OwnG wx)
    (HIO : ∀ i, i < S.l.length → InsOk (S.l.getD i default)) (HTX : ∀ i, i < S.l.length → (S.l.getD i default).text.size ≤ 2000000) (HBR : ∀ i, i < S.l.length → (S.l.getD i default).op = 35 → i + 1 < S.l.length) :
    Calls Tryz.prog 58 #[.pointer (some ⟨gF, 0, none⟩)] w fun e w' => e = .returned (.bool (folds O0 S).2) ∧ St w0 B0 Bk gF gl cl gm go (folds O0 S).1 w' := by
  have hlm := hst.lens.1
  cases hks : S.ks with
  | nil =>
    rw [show folds O0 S = (S, false) by unfold folds; rw [hks]]
    exact folds_none w0 w B0 Bk gF gl cl gm go S hst hl hks
  | cons top ks1 =>
    have htop : top < S.l.length := hst.ks top (by rw [hks]; simp)
    cases ks1 with
    | nil =>
      rw [show folds O0 S = (S, false) by unfold folds; rw [hks]]
      cases hm : S.mark.getD top false
      · exact folds_one_false w0 w B0 Bk gF gl cl gm go S hst hl top hks hm
      · exact folds_one_true w0 w B0 Bk gF gl cl gm go S hst hl top hks hm
    | cons k r =>
      have hkl : k < S.l.length := hst.ks k (by rw [hks]; simp)
      have hmt : S.mark.getD top true = S.mark.getD top false := getD_bool (by omega)
      have hmk : S.mark.getD k true = S.mark.getD k false := getD_bool (by omega)
      by_cases hm : S.mark.getD top false = true
      · rw [folds_eq0 hks (hmt.trans hm)]
        exact folds_mark w0 w B0 Bk gF gl cl gm go S hst hl top k r hks hm
      replace hm := Bool.eq_false_iff.2 hm
      have E0 := folds_eq hks (hmt.trans hm)
      rw [E0]
      clear E0
      have hopt : PeepPlain.opAt S.l top = (S.l.getD top default).op := rfl
      have hopk : PeepPlain.opAt S.l k = (S.l.getD k default).op := rfl
      rw [hopt, hopk]
      cases hc : cstOf (S.l.getD k default) with
      | none => exact folds_plain w0 w B0 Bk gF gl cl gm go S hst hl top k r hks hm HIO hc
      | some a =>
        dsimp only
        by_cases h18 : (S.l.getD top default).op = 18
        · rw [if_pos h18]
          cases hu : unOf (S.l.getD top default).text a with
          | none => exact folds_un_no w0 w B0 Bk gF gl cl gm go S hst hl top k r hks hm HIO a hc h18 (HTX top htop) hu
          | some d => exact folds_un_yes w0 w B0 Bk gF gl cl gm go S hst hl top k r hks hm HIO a hc hG h18 (HTX top htop) d (unOf_ok hu) hu
        · rw [if_neg h18]
          by_cases h35 : (S.l.getD top default).op = 35
          · rw [if_pos h35]
            by_cases h6 : (S.l.getD k default).op = 6
            · rw [if_neg (fun h => h h6)]
              have ht1 := HBR top htop h35
              by_cases h1 : (S.l.getD k default).a = 1
              · rw [if_pos h1, hmk, getD_bool (show top + 1 < S.mark.length by omega)]
                cases hb1 : S.mark.getD (top + 1) false
                · rw [Bool.false_or]
                  exact folds_br_one_false w0 w B0 Bk gF gl cl gm go S hst hl top k r hks hm HIO a hc h35 h6 h1 ht1 hb1
                · rw [Bool.true_or]
                  exact folds_br_one_true w0 w B0 Bk gF gl cl gm go S hst hl top k r hks hm HIO a hc h35 h6 h1 ht1 hb1
              · rw [if_neg h1]
                exact folds_br_jump w0 w B0 Bk gF gl cl gm go S hst hl top k r hks hm HIO a hc h35 h6 h1
            · rw [if_pos h6]
              exact folds_br_other w0 w B0 Bk gF gl cl gm go S hst hl top k r hks hm HIO a hc h35 h6
          · rw [if_neg h35]
            by_cases h19 : (S.l.getD top default).op = 19
            · rw [if_pos h19]
              cases r with
              | nil =>
                dsimp only
                cases hm2 : S.mark.getD k false
                · exact folds_bi_two_false w0 w B0 Bk gF gl cl gm go S hst hl top k hks hm HIO a hc h19 hm2
                · exact folds_bi_two_true w0 w B0 Bk gF gl cl gm go S hst hl top k hks hm HIO a hc h19 hm2
              | cons j rest2 =>
                dsimp only
                rw [hmk]
                by_cases hm2 : S.mark.getD k false = true
                · rw [if_pos hm2]
                  exact folds_bi_mark w0 w B0 Bk gF gl cl gm go S hst hl top k j rest2 hks hm HIO a hc h19 hm2
                replace hm2 := Bool.eq_false_iff.2 hm2
                rw [hm2, if_neg (by decide)]
                cases hcj : cstOf (S.l.getD j default) with
                | none => exact folds_bi_plain w0 w B0 Bk gF gl cl gm go S hst hl top k j rest2 hks hm HIO a hc h19 hm2 hcj
                | some b =>
                  dsimp only
                  have hjl : j < S.l.length := hst.ks j (by rw [hks]; simp)
                  cases hbi : biOf (S.l.getD top default).text b a with
                  | none => exact folds_bi_no w0 w B0 Bk gF gl cl gm go S hst hl top k j rest2 hks hm HIO a hc b hcj h19 hm2 (HTX top htop) hG hbi
                  | some d => exact folds_bi_yes w0 w B0 Bk gF gl cl gm go S hst hl top k j rest2 hks hm HIO a hc b hcj h19 hm2 (HTX top htop) hG d (biOf_ok (cst_ok (HIO j hjl) hcj) hbi) hbi
            · rw [if_neg h19]
              exact folds_other w0 w B0 Bk gF gl cl gm go S hst hl top k r hks hm HIO a hc h18 h35 h19
end Go.Proofs.YtmecmlpoallpcaaGreatDoor
