/- The walk of NumberUnary, by what number.Unary and guiseref6.Unary answer. Conditions: what strconv reads of the package's variables. -/
import Derived.Test.YtehakhplglhkdaaGreatDoorUnaryF
import Derived.Test.YtehakhplglhkdaaGreatDoorKnown
namespace Go.Proofs.YtehakhplglhkdaaGreatDoor
set_option linter.unusedVariables false
open Go.RowKit

set_option maxRecDepth 200000 in
set_option maxHeartbeats 8000000 in
theorem unaryLaw_ok (op : ByteArray) (k : Int) (t s : ByteArray) (n f ro rf rl rc : Int) (pa ia : Option Addr) (pn pc iN ic : Nat) (k' n' f' : Int) (t' s' : ByteArray) (w : World) (hG : Glob w)
    (hU : ∀ w, Calls Tryz.prog 12 #[.string op, (Dat.mk k t n f s ro rf rl rc pa pn pc ia iN ic).val] w fun e w' => e = .returned (.tuple #[(mk k' t' n' f' s').val, .nilIface]) ∧ Below w.heap.size w w')
    (hR : ∀ w, Calls Tryz.prog 13 #[.string op, (Dat.mk k t n f s ro rf rl rc pa pn pc ia iN ic).val] w fun e w' => e = .returned (.tuple #[(mk k' t' n' f' s').val, .agg #[.string ⟨#[]⟩, .string ⟨#[]⟩]]) ∧ Below w.heap.size w w') :
    Calls Tryz.prog 3 #[.string op, (Dat.mk k t n f s ro rf rl rc pa pn pc ia iN ic).val] w fun e w' => e = .returned (.bool true) ∧ Below w.heap.size w w' := by
  have h11 := Lib.hid fun w (h : Glob w) => known_any w h
  have HG := Lib.hid hG
  have hS := fun w => same_mk k' n' f' t' s' w
  unfold mk Dat.val at hS
  simp only [mk, Dat.val] at hU hR
  have HU1 := Lib.hid hU
  have HU2 := Lib.hid hU
  have HR := Lib.hid hR
  have HS1 := Lib.hid hS
  have HS2 := Lib.hid hS
  clear hU hR hS hG
  simp only [Dat.val]
  go_enter Tryz.func3, Tryz.ntmps3
  go_wp2_with (first
    | (go_at_call 11; refine (h11.out _ ?hg).mono ?_
       case hg => exact HG.out.below (below1 w _)
       rintro en w1 ⟨rfl, hb⟩
       have B1 : Hid (Below w.heap.size w w1) := below_more (below1 w _) hb (by simp <;> omega)
       have RA0 : Hid (Row w1 (w.heap.size) 28 (Dat.mk k t n f s ro rf rl rc pa pn pc ia iN ic).cells) := (Row.made w 28 (Dat.mk k t n f s ro rf rl rc pa pn pc ia iN ic).cells).below hb (Row.made w 28 (Dat.mk k t n f s ro rf rl rc pa pn pc ia iN ic).cells).lt
       obtain ⟨p0, p1, p2, p3, p4, p5, p6, p7, p8, p9, p10, pf⟩ := row11 RA0.out; have pl := RA0.out.lt; simp only at p0 p1 p2 p3 p4 p5 p6 p7 p8 p9 p10
       clear hb h11 HG)
    | (go_at_call 12; refine (HU1.out _).mono ?_; rintro en w2 ⟨rfl, hb⟩
       have B2 : Hid (Below w.heap.size w w2) := below_more B1.out hb B1.out.size
       replace RA0 : Hid (Row w2 (w.heap.size) 28 (Dat.mk k t n f s ro rf rl rc pa pn pc ia iN ic).cells) := RA0.out.below hb RA0.out.lt
       clear hb HU1 B1 p0 p1 p2 p3 p4 p5 p6 p7 p8 p9 p10 pf pl
       obtain ⟨p0, p1, p2, p3, p4, p5, p6, p7, p8, p9, p10, pf⟩ := row11 RA0.out; have pl := RA0.out.lt; simp only at p0 p1 p2 p3 p4 p5 p6 p7 p8 p9 p10
       skip)
    | (go_at_call 12; refine (HU2.out _).mono ?_; rintro en w3 ⟨rfl, hb⟩
       have B3 : Hid (Below w.heap.size w w3) := below_more (B2.out.alloc B2.out.size _) hb (by have := B2.out.size; simp <;> omega)
       replace RA0 : Hid (Row w3 (w.heap.size) 28 (Dat.mk k t n f s ro rf rl rc pa pn pc ia iN ic).cells) := (RA0.out.alloc _).below hb (RA0.out.alloc _).lt
       have X1 : Hid (Row w3 w2.heap.size 28 (mk k' t' n' f' s').cells) := (Row.made w2 28 (mk k' t' n' f' s').cells).below hb (Row.made w2 28 (mk k' t' n' f' s').cells).lt
       clear hb HU2 B2 p0 p1 p2 p3 p4 p5 p6 p7 p8 p9 p10 pf pl
       obtain ⟨p0, p1, p2, p3, p4, p5, p6, p7, p8, p9, p10, pf⟩ := row11 RA0.out; have pl := RA0.out.lt; simp only at p0 p1 p2 p3 p4 p5 p6 p7 p8 p9 p10
       skip)
    | (go_at_call 13; refine (HR.out _).mono ?_; rintro en w4 ⟨rfl, hb⟩
       have B4 : Hid (Below w.heap.size w w4) := below_more (B3.out.alloc B3.out.size _) hb (by have := B3.out.size; simp <;> omega)
       replace X1 : Hid (Row w4 w2.heap.size 28 (mk k' t' n' f' s').cells) := (X1.out.alloc _).below hb (X1.out.alloc _).lt
       have X2 : Hid (Row w4 w3.heap.size 28 (mk k' t' n' f' s').cells) := (Row.made w3 28 (mk k' t' n' f' s').cells).below hb (Row.made w3 28 (mk k' t' n' f' s').cells).lt
       clear hb HR B3 p0 p1 p2 p3 p4 p5 p6 p7 p8 p9 p10 pf pl RA0
       obtain ⟨x0, x1, x2, x3, x4, x5, x6, x7, x8, x9, x10, xf⟩ := row11 X1.out; have xl := X1.out.lt; simp only [mk] at x0 x1 x2 x3 x4 x5 x6 x7 x8 x9 x10
       obtain ⟨y0, y1, y2, y3, y4, y5, y6, y7, y8, y9, y10, yf⟩ := row11 X2.out; have yl := X2.out.lt; simp only [mk] at y0 y1 y2 y3 y4 y5 y6 y7 y8 y9 y10
       skip)
    | (go_at_call 14; refine (HS1.out _).mono ?_; rintro en w5 ⟨rfl, hb⟩
       have B5 : Hid (Below w.heap.size w w5) := below_more ((B4.out.alloc B4.out.size _).alloc (by have := B4.out.size; simp <;> omega) _) hb (by have := B4.out.size; simp <;> omega)
       replace X2 : Hid (Row w5 w3.heap.size 28 (mk k' t' n' f' s').cells) := ((X2.out.alloc _).alloc _).below hb ((X2.out.alloc _).alloc _).lt
       have X3 : Hid (Row w5 w4.heap.size 28 (mk k' t' n' f' s').cells) := ((Row.made w4 28 (mk k' t' n' f' s').cells).alloc _).below hb ((Row.made w4 28 (mk k' t' n' f' s').cells).alloc _).lt
       have X4 : Hid (Row w5 (w4.heap.size + 1) 35 [.string ⟨#[]⟩, .string ⟨#[]⟩]) := (row_atOne w4 _ 35 [.string ⟨#[]⟩, .string ⟨#[]⟩]).below hb (row_atOne w4 _ 35 [.string ⟨#[]⟩, .string ⟨#[]⟩]).lt
       clear hb HS1 B4 X1 x0 x1 x2 x3 x4 x5 x6 x7 x8 x9 x10 xf xl y0 y1 y2 y3 y4 y5 y6 y7 y8 y9 y10 yf yl
       obtain ⟨x0, x1, x2, x3, x4, x5, x6, x7, x8, x9, x10, xf⟩ := row11 X2.out; have xl := X2.out.lt; simp only [mk] at x0 x1 x2 x3 x4 x5 x6 x7 x8 x9 x10
       obtain ⟨y0, y1, y2, y3, y4, y5, y6, y7, y8, y9, y10, yf⟩ := row11 X3.out; have yl := X3.out.lt; simp only [mk] at y0 y1 y2 y3 y4 y5 y6 y7 y8 y9 y10
       skip)
    | (go_at_call 14; refine (HS2.out _).mono ?_; rintro en w6 ⟨rfl, hb⟩
       have B6 : Hid (Below w.heap.size w w6) := below_more B5.out hb B5.out.size
       replace X4 : Hid (Row w6 (w4.heap.size + 1) 35 [.string ⟨#[]⟩, .string ⟨#[]⟩]) := X4.out.below hb X4.out.lt
       clear hb HS2 B5 X2 X3 x0 x1 x2 x3 x4 x5 x6 x7 x8 x9 x10 xf xl y0 y1 y2 y3 y4 y5 y6 y7 y8 y9 y10 yf yl
       have z0 := X4.out.cell 0; have z1 := X4.out.cell 1; have zf := X4.out.free; have zl := X4.out.lt; simp only [List.getElem?_cons_zero, List.getElem?_cons_succ] at z0 z1
       skip)
    | (go_at_call 15; have ord := B6.out.size; refine (told_none _).mono ?_; rintro en w7 ⟨rfl, hb⟩
       have B7 : Hid (Below w.heap.size w w7) := below_more B6.out hb B6.out.size
       replace X4 : Hid (Row w7 (w4.heap.size + 1) 35 [.string ⟨#[]⟩, .string ⟨#[]⟩]) := X4.out.below hb X4.out.lt
       clear hb ord B6 z0 z1 zf zl
       have z0 := X4.out.cell 0; have z1 := X4.out.cell 1; have zf := X4.out.free; have zl := X4.out.lt; simp only [List.getElem?_cons_zero, List.getElem?_cons_succ] at z0 z1
       skip)
    | (go_at_call 15; have ord := B7.out.size; refine (told_none _).mono ?_; rintro en w8 ⟨rfl, hb⟩
       have B8 : Hid (Below w.heap.size w w8) := below_more B7.out hb B7.out.size
       clear hb ord B7 X4 z0 z1 zf zl)
    | (go_at_call 16; refine (fresh_none _).mono ?_; rintro en w9 ⟨rfl, hb⟩
       have B9 : Hid (Below w.heap.size w w9) := below_more B8.out hb B8.out.size
       clear hb B8))
  go_returns
  exact ⟨rfl, B9.out⟩
set_option maxRecDepth 200000 in
set_option maxHeartbeats 8000000 in
theorem unaryLaw_fault (op : ByteArray) (k : Int) (t s : ByteArray) (n f ro rf rl rc : Int) (pa ia : Option Addr) (pn pc iN ic : Nat) (k' n' f' : Int) (t' s' : ByteArray) (m : ByteArray) (w : World) (hG : Glob w)
    (hU : ∀ w, Calls Tryz.prog 12 #[.string op, (Dat.mk k t n f s ro rf rl rc pa pn pc ia iN ic).val] w fun e w' => ∃ v, e = .returned (.tuple #[(mk k' t' n' f' s').val, v]) ∧ IsFault w w' v sOperand m ∧ Below w.heap.size w w')
    (hR : ∀ w, Calls Tryz.prog 13 #[.string op, (Dat.mk k t n f s ro rf rl rc pa pn pc ia iN ic).val] w fun e w' => e = .returned (.tuple #[(mk k' t' n' f' s').val, .agg #[.string sOperand, .string m]]) ∧ Below w.heap.size w w') :
    Calls Tryz.prog 3 #[.string op, (Dat.mk k t n f s ro rf rl rc pa pn pc ia iN ic).val] w fun e w' => e = .returned (.bool true) ∧ Below w.heap.size w w' := by
  have h11 := Lib.hid fun w (h : Glob w) => known_any w h
  have HG := Lib.hid hG
  have ht : Hid ((sOperand.toList == []) = false) := Lib.hid (by rw [ByteArray.toList_eq]; rfl)
  have hS := fun w => same_mk k' n' f' t' s' w
  unfold mk Dat.val at hS
  simp only [mk, Dat.val] at hU hR
  have HU1 := Lib.hid hU
  have HU2 := Lib.hid hU
  have HR := Lib.hid hR
  have HS1 := Lib.hid hS
  have HS2 := Lib.hid hS
  clear hU hR hS hG
  simp only [Dat.val]
  go_enter Tryz.func3, Tryz.ntmps3
  go_wp2_with (first
    | (go_at_call 11; refine (h11.out _ ?hg).mono ?_
       case hg => exact HG.out.below (below1 w _)
       rintro en w1 ⟨rfl, hb⟩
       have B1 : Hid (Below w.heap.size w w1) := below_more (below1 w _) hb (by simp <;> omega)
       have RA0 : Hid (Row w1 (w.heap.size) 28 (Dat.mk k t n f s ro rf rl rc pa pn pc ia iN ic).cells) := (Row.made w 28 (Dat.mk k t n f s ro rf rl rc pa pn pc ia iN ic).cells).below hb (Row.made w 28 (Dat.mk k t n f s ro rf rl rc pa pn pc ia iN ic).cells).lt
       obtain ⟨p0, p1, p2, p3, p4, p5, p6, p7, p8, p9, p10, pf⟩ := row11 RA0.out; have pl := RA0.out.lt; simp only at p0 p1 p2 p3 p4 p5 p6 p7 p8 p9 p10
       clear hb h11 HG)
    | (go_at_call 12; refine (HU1.out _).mono ?_; rintro en w2 ⟨v1, rfl, ⟨g1, rfl, hg1, hf1⟩, hb⟩
       have B2 : Hid (Below w.heap.size w w2) := below_more B1.out hb B1.out.size
       replace RA0 : Hid (Row w2 (w.heap.size) 28 (Dat.mk k t n f s ro rf rl rc pa pn pc ia iN ic).cells) := RA0.out.below hb RA0.out.lt
       have G1 : Hid (Row w2 g1 35 [.string sOperand, .string m]) := hf1
       have hw1 : Hid (w1.heap.size ≤ g1) := hg1
       clear hf1 hg1
       clear hb HU1 B1 p0 p1 p2 p3 p4 p5 p6 p7 p8 p9 p10 pf pl
       obtain ⟨p0, p1, p2, p3, p4, p5, p6, p7, p8, p9, p10, pf⟩ := row11 RA0.out; have pl := RA0.out.lt; simp only at p0 p1 p2 p3 p4 p5 p6 p7 p8 p9 p10
       skip)
    | (go_at_call 12; refine (HU2.out _).mono ?_; rintro en w3 ⟨v2, rfl, ⟨g2, rfl, hg2, hf2⟩, hb⟩
       have B3 : Hid (Below w.heap.size w w3) := below_more (B2.out.alloc B2.out.size _) hb (by have := B2.out.size; simp <;> omega)
       replace RA0 : Hid (Row w3 (w.heap.size) 28 (Dat.mk k t n f s ro rf rl rc pa pn pc ia iN ic).cells) := (RA0.out.alloc _).below hb (RA0.out.alloc _).lt
       have X1 : Hid (Row w3 w2.heap.size 28 (mk k' t' n' f' s').cells) := (Row.made w2 28 (mk k' t' n' f' s').cells).below hb (Row.made w2 28 (mk k' t' n' f' s').cells).lt
       have gl := G1.out.lt
       replace G1 : Hid (Row w3 g1 35 [.string sOperand, .string m]) := (G1.out.alloc _).below hb (G1.out.alloc _).lt
       have G2 : Hid (Row w3 g2 35 [.string sOperand, .string m]) := hf2
       have gn : Hid (g1 ≠ g2) := Lib.hid (by simp at hg2; omega)
       clear hf2 hg2 gl hw1
       clear hb HU2 B2 p0 p1 p2 p3 p4 p5 p6 p7 p8 p9 p10 pf pl
       obtain ⟨p0, p1, p2, p3, p4, p5, p6, p7, p8, p9, p10, pf⟩ := row11 RA0.out; have pl := RA0.out.lt; simp only at p0 p1 p2 p3 p4 p5 p6 p7 p8 p9 p10
       skip)
    | (go_at_call 13; refine (HR.out _).mono ?_; rintro en w4 ⟨rfl, hb⟩
       have B4 : Hid (Below w.heap.size w w4) := below_more (B3.out.alloc B3.out.size _) hb (by have := B3.out.size; simp <;> omega)
       replace X1 : Hid (Row w4 w2.heap.size 28 (mk k' t' n' f' s').cells) := (X1.out.alloc _).below hb (X1.out.alloc _).lt
       have X2 : Hid (Row w4 w3.heap.size 28 (mk k' t' n' f' s').cells) := (Row.made w3 28 (mk k' t' n' f' s').cells).below hb (Row.made w3 28 (mk k' t' n' f' s').cells).lt
       replace G1 : Hid (Row w4 g1 35 [.string sOperand, .string m]) := (G1.out.alloc _).below hb (G1.out.alloc _).lt
       replace G2 : Hid (Row w4 g2 35 [.string sOperand, .string m]) := (G2.out.alloc _).below hb (G2.out.alloc _).lt
       clear hb HR B3 p0 p1 p2 p3 p4 p5 p6 p7 p8 p9 p10 pf pl RA0
       obtain ⟨x0, x1, x2, x3, x4, x5, x6, x7, x8, x9, x10, xf⟩ := row11 X1.out; have xl := X1.out.lt; simp only [mk] at x0 x1 x2 x3 x4 x5 x6 x7 x8 x9 x10
       obtain ⟨y0, y1, y2, y3, y4, y5, y6, y7, y8, y9, y10, yf⟩ := row11 X2.out; have yl := X2.out.lt; simp only [mk] at y0 y1 y2 y3 y4 y5 y6 y7 y8 y9 y10
       skip)
    | (go_at_call 14; refine (HS1.out _).mono ?_; rintro en w5 ⟨rfl, hb⟩
       have B5 : Hid (Below w.heap.size w w5) := below_more ((B4.out.alloc B4.out.size _).alloc (by have := B4.out.size; simp <;> omega) _) hb (by have := B4.out.size; simp <;> omega)
       replace X2 : Hid (Row w5 w3.heap.size 28 (mk k' t' n' f' s').cells) := ((X2.out.alloc _).alloc _).below hb ((X2.out.alloc _).alloc _).lt
       have X3 : Hid (Row w5 w4.heap.size 28 (mk k' t' n' f' s').cells) := ((Row.made w4 28 (mk k' t' n' f' s').cells).alloc _).below hb ((Row.made w4 28 (mk k' t' n' f' s').cells).alloc _).lt
       have X4 : Hid (Row w5 (w4.heap.size + 1) 35 [.string sOperand, .string m]) := (row_atOne w4 _ 35 [.string sOperand, .string m]).below hb (row_atOne w4 _ 35 [.string sOperand, .string m]).lt
       replace G1 : Hid (Row w5 g1 35 [.string sOperand, .string m]) := ((G1.out.alloc _).alloc _).below hb ((G1.out.alloc _).alloc _).lt
       replace G2 : Hid (Row w5 g2 35 [.string sOperand, .string m]) := ((G2.out.alloc _).alloc _).below hb ((G2.out.alloc _).alloc _).lt
       clear hb HS1 B4 X1 x0 x1 x2 x3 x4 x5 x6 x7 x8 x9 x10 xf xl y0 y1 y2 y3 y4 y5 y6 y7 y8 y9 y10 yf yl
       obtain ⟨x0, x1, x2, x3, x4, x5, x6, x7, x8, x9, x10, xf⟩ := row11 X2.out; have xl := X2.out.lt; simp only [mk] at x0 x1 x2 x3 x4 x5 x6 x7 x8 x9 x10
       obtain ⟨y0, y1, y2, y3, y4, y5, y6, y7, y8, y9, y10, yf⟩ := row11 X3.out; have yl := X3.out.lt; simp only [mk] at y0 y1 y2 y3 y4 y5 y6 y7 y8 y9 y10
       skip)
    | (go_at_call 14; refine (HS2.out _).mono ?_; rintro en w6 ⟨rfl, hb⟩
       have B6 : Hid (Below w.heap.size w w6) := below_more B5.out hb B5.out.size
       replace X4 : Hid (Row w6 (w4.heap.size + 1) 35 [.string sOperand, .string m]) := X4.out.below hb X4.out.lt
       replace G1 : Hid (Row w6 g1 35 [.string sOperand, .string m]) := G1.out.below hb G1.out.lt
       replace G2 : Hid (Row w6 g2 35 [.string sOperand, .string m]) := G2.out.below hb G2.out.lt
       clear hb HS2 B5 X2 X3 x0 x1 x2 x3 x4 x5 x6 x7 x8 x9 x10 xf xl y0 y1 y2 y3 y4 y5 y6 y7 y8 y9 y10 yf yl
       have z0 := X4.out.cell 0; have z1 := X4.out.cell 1; have zf := X4.out.free; have zl := X4.out.lt; simp only [List.getElem?_cons_zero, List.getElem?_cons_succ] at z0 z1
       skip)
    | (go_at_call 15; have ord := B6.out.size; refine (told_fault g1 _ _ _ _ _ G1.out ht.out).mono ?_; rintro en w7 ⟨rfl, hb⟩
       have B7 : Hid (Below w.heap.size w w7) := below_more B6.out hb B6.out.size
       replace X4 : Hid (Row w7 (w4.heap.size + 1) 35 [.string sOperand, .string m]) := X4.out.below hb X4.out.lt
       replace G1 : Hid (Row w7 g1 35 [.string sOperand, .string m]) := G1.out.below hb G1.out.lt
       replace G2 : Hid (Row w7 g2 35 [.string sOperand, .string m]) := G2.out.below hb G2.out.lt
       clear hb ord B6 z0 z1 zf zl
       have z0 := X4.out.cell 0; have z1 := X4.out.cell 1; have zf := X4.out.free; have zl := X4.out.lt; simp only [List.getElem?_cons_zero, List.getElem?_cons_succ] at z0 z1
       skip)
    | (go_at_call 15; have ord := B7.out.size; refine (told_fault g2 _ _ _ _ _ G2.out ht.out).mono ?_; rintro en w8 ⟨rfl, hb⟩
       have B8 : Hid (Below w.heap.size w w8) := below_more B7.out hb B7.out.size
       replace G1 : Hid (Row w8 g1 35 [.string sOperand, .string m]) := G1.out.below hb G1.out.lt
       replace G2 : Hid (Row w8 g2 35 [.string sOperand, .string m]) := G2.out.below hb G2.out.lt
       clear hb ord B7 X4 z0 z1 zf zl)
    | (go_at_call 16; refine (fresh_two g1 g2 _ _ _ gn.out G1.out G2.out).mono ?_; rintro en w9 ⟨rfl, hb⟩
       have B9 : Hid (Below w.heap.size w w9) := below_more B8.out hb B8.out.size
       clear hb B8))
  go_returns
  exact ⟨rfl, B9.out⟩
end Go.Proofs.YtehakhplglhkdaaGreatDoor
