/- The walk of NumberConvert, by what number.Convert and guiseref6.Convert answer. Conditions: what strconv reads of the package's variables; the path is not long. -/
import Derived.Test.YtehakhplglhkdaaGreatDoorConvR
import Derived.Test.YtehakhplglhkdaaGreatDoorConvB
import Derived.Test.YtehakhplglhkdaaGreatDoorConvOwns
import Derived.Test.YtehakhplglhkdaaGreatDoorUnaryLaw
namespace Go.Proofs.YtehakhplglhkdaaGreatDoor
set_option linter.unusedVariables false
open Go.RowKit

theorem ints_front {w : World} {g : Nat} {l m : List Int} (h : Row w g 3 (intC (l ++ m))) : IntsAt w (some ⟨g, 0, none⟩) l :=
  Lies.row h (fun j u hu => by
    rw [intC_append]
    exact (List.getElem?_append_left (List.getElem?_eq_some_iff.1 hu).1).trans hu)
set_option maxRecDepth 200000 in
set_option maxHeartbeats 16000000 in
theorem convLaw_ok (k0 : Int) (u : ByteArray) (l : List Int) (k : Int) (t s : ByteArray) (n f ro rf rl rc : Int) (pa ia : Option Addr) (pc iN ic : Nat) (k' n' f' ro' rf' rl' rc' : Int) (s' : ByteArray) (l' : List Int) (hl' : l'.length ≤ 17592186043904) (w : World) (hG : Glob w) (hA : IntsAt w pa l) (hl : l.length ≤ 17592186043904)
    (hC : ∀ (g : Nat) (W : World), IntsAt W (some ⟨g, 0, none⟩) l → Calls Tryz.prog 20 #[.int .i64 k0, .string u, (Dat.mk k t n f s ro rf rl rc (some ⟨g, 0, none⟩) l.length (l.length + 2) ia iN ic).val] W fun e w' => ∃ A c, e = .returned (.tuple #[(Dat.mk k' u n' f' s' ro' rf' rl' rc' A l'.length c none 0 0).val, .nilIface]) ∧ OwnI W.heap.size w' (.slice A l'.length c) l' ∧ Below W.heap.size W w')
    (hR : ∀ W : World, IntsAt W pa l → Calls Tryz.prog 21 #[.int .i64 k0, .string u, (Dat.mk k t n f s ro rf rl rc pa l.length pc ia iN ic).val] W fun e w' => ∃ A c, e = .returned (.tuple #[(Dat.mk k' u n' f' s' ro' rf' rl' rc' A l'.length c none 0 0).val, .agg #[.string ⟨#[]⟩, .string ⟨#[]⟩]]) ∧ OwnI W.heap.size w' (.slice A l'.length c) l' ∧ Below W.heap.size W w') :
    Calls Tryz.prog 5 #[.int .i64 k0, .string u, (Dat.mk k t n f s ro rf rl rc pa l.length pc ia iN ic).val] w fun e w' => e = .returned (.bool true) ∧ Below w.heap.size w w' := by
  have h11 := Lib.hid fun w (h : Glob w) => known_any w h
  have HG := Lib.hid hG
  have HA := Lib.hid hA
  have HS := Lib.hid fun (A B : Option Addr) (c d : Nat) W hA hB => same_path k' n' f' ro' rf' rl' rc' u s' A B c d l' W hA hB hl'
  replace hl' := Lib.hid hl'
  replace hl := Lib.hid hl
  simp only [Dat.val] at hC hR
  have h19 := fun (W : World) (h : IntsAt W pa l) => lent_any l k t s n f ro rf rl rc pa ia pc iN ic W h hl.out
  simp only [Dat.val] at h19
  have H19 := Lib.hid h19
  clear h19
  have HC1 := Lib.hid hC
  have HC2 := Lib.hid hC
  have HR := Lib.hid hR
  clear hC hR hG hA
  simp only [Dat.val]
  go_enter Tryz.func5, Tryz.ntmps5
  go_wp2_with (first
    | (go_at_call 11; refine (h11.out _ ?hg).mono ?_
       case hg => exact HG.out.below (below1 w _)
       rintro en w1 ⟨rfl, hb⟩
       have B1 : Hid (Below w.heap.size w w1) := below_more (below1 w _) hb (by simp <;> omega)
       have RA : Hid (Row w1 w.heap.size 28 (Dat.mk k t n f s ro rf rl rc pa l.length pc ia iN ic).cells) := (Row.made w 28 (Dat.mk k t n f s ro rf rl rc pa l.length pc ia iN ic).cells).below hb (Row.made w 28 (Dat.mk k t n f s ro rf rl rc pa l.length pc ia iN ic).cells).lt
       have IA : Hid (IntsAt w1 pa l) := HA.out.below B1.out
       obtain ⟨p0, p1, p2, p3, p4, p5, p6, p7, p8, p9, p10, pf⟩ := row11 RA.out; have pl := RA.out.lt; simp only at p0 p1 p2 p3 p4 p5 p6 p7 p8 p9 p10
       clear hb h11 HG)
    | (go_at_call 19; refine (H19.out _ IA.out).mono ?_
       rintro en w2 ⟨g, hg, rfl, hG, hb⟩
       have B2 : Hid (Below w.heap.size w w2) := below_more B1.out hb B1.out.size
       replace RA : Hid (Row w2 w.heap.size 28 (Dat.mk k t n f s ro rf rl rc pa l.length pc ia iN ic).cells) := RA.out.below hb RA.out.lt
       have IA2 : Hid (IntsAt w2 pa l) := IA.out.below hb
       have G2 : Hid (Row w2 g 3 (intC (l ++ tail2))) := hG
       have NE : Hid (0 < l.length → ∀ a, pa = some a → a.block ≠ g) := Lib.hid (fun hp a ha => by
         obtain ⟨b', off, e, hlt, _⟩ := HA.out.at_ hp
         have := B1.out.size
         rw [e] at ha
         cases ha
         show b' ≠ g
         omega)
       have gb : Hid (w.heap.size < g) := Lib.hid (Nat.lt_of_lt_of_le pl hg)
       clear hb B1 hG hg IA H19 p0 p1 p2 p3 p4 p5 p6 p7 p8 p9 p10 pf pl)
    | (go_at_call 20; refine (HC1.out g _ (ints_front (G2.out.alloc _))).mono ?_; rintro en w3 ⟨A1, c1, rfl, ho, hb⟩
       have g2 := G2.out.lt
       have B3 : Hid (Below w.heap.size w w3) := below_more (B2.out.alloc B2.out.size _) hb (by have := B2.out.size; simp <;> omega)
       replace RA : Hid (Row w3 w.heap.size 28 (Dat.mk k t n f s ro rf rl rc pa l.length pc ia iN ic).cells) := (RA.out.alloc _).below hb (RA.out.alloc _).lt
       have T8 : Hid (Row w3 w2.heap.size 28 (Dat.mk k t n f s ro rf rl rc (some ⟨g, 0, none⟩) l.length (l.length + 2) ia iN ic).cells) := (Row.made w2 28 (Dat.mk k t n f s ro rf rl rc (some ⟨g, 0, none⟩) l.length (l.length + 2) ia iN ic).cells).below hb (Row.made w2 28 (Dat.mk k t n f s ro rf rl rc (some ⟨g, 0, none⟩) l.length (l.length + 2) ia iN ic).cells).lt
       have G3 : Hid (Row w3 g 3 (intC (l ++ tail2))) := (G2.out.alloc _).below hb (G2.out.alloc _).lt
       have IA3 : Hid (IntsAt w3 pa l) := (IA2.out.below (below1 w2 _)).below hb
       have g3 : Hid (g < w3.heap.size) := G3.out.lt
       have O1 : Hid (OwnI w.heap.size w3 (.slice A1 l'.length c1) l') := OwnI.low ho (by have := B2.out.size; simp <;> omega)
       have P1 : Hid (Apart (.slice A1 l'.length c1) (.slice (some ⟨g, 0, none⟩) 0 0)) := Lib.hid (fun q h1 h2 => by
         have e1 := (ho.lt h1).1
         simp only [Value.ownBlock, Option.some.injEq] at h2
         simp at e1
         omega)
       clear ho
       clear hb HC1 B2 G2 IA2 g2
       obtain ⟨q0, q1, q2, q3, q4, q5, q6, q7, q8, q9, q10, qf⟩ := row11 T8.out; have ql := T8.out.lt; simp only at q0 q1 q2 q3 q4 q5 q6 q7 q8 q9 q10
       skip)
    | (go_at_call 20; refine (HC2.out g _ (ints_front (G3.out.alloc _))).mono ?_; rintro en w4 ⟨A2, c2, rfl, ho, hb⟩
       have B4 : Hid (Below w.heap.size w w4) := below_more (B3.out.alloc B3.out.size _) hb (by have := B3.out.size; simp <;> omega)
       replace RA : Hid (Row w4 w.heap.size 28 (Dat.mk k t n f s ro rf rl rc pa l.length pc ia iN ic).cells) := (RA.out.alloc _).below hb (RA.out.alloc _).lt
       have RX : Hid (Row w4 w3.heap.size 28 (Dat.mk k' u n' f' s' ro' rf' rl' rc' A1 l'.length c1 none 0 0).cells) := (Row.made w3 28 (Dat.mk k' u n' f' s' ro' rf' rl' rc' A1 l'.length c1 none 0 0).cells).below hb (Row.made w3 28 (Dat.mk k' u n' f' s' ro' rf' rl' rc' A1 l'.length c1 none 0 0).cells).lt
       have G4 : Hid (Row w4 g 3 (intC (l ++ tail2))) := (G3.out.alloc _).below hb (G3.out.alloc _).lt
       have IA4 : Hid (IntsAt w4 pa l) := (IA3.out.below (below1 w3 _)).below hb
       have O14 : Hid (OwnI w.heap.size w4 (.slice A1 l'.length c1) l') := (O1.out.alloc _).below hb (Nat.le_refl _)
       have P2 : Hid (Apart (.slice A2 l'.length c2) (.slice (some ⟨g, 0, none⟩) 0 0)) := Lib.hid (fun q h1 h2 => by
         have e1 := (ho.lt h1).1
         have := g3.out
         simp only [Value.ownBlock, Option.some.injEq] at h2
         simp at e1
         omega)
       have P12 : Hid (Apart (.slice A2 l'.length c2) (.slice A1 l'.length c1)) := Lib.hid (fun q h1 h2 => by
         have e1 := (ho.lt h1).1
         have e2 := (O1.out.lt h2).2
         simp at e1
         omega)
       have O2 : Hid (OwnI w.heap.size w4 (.slice A2 l'.length c2) l') := OwnI.low ho (by have := B3.out.size; simp <;> omega)
       clear ho O1
       clear hb HC2 B3 G3 IA3 T8 q0 q1 q2 q3 q4 q5 q6 q7 q8 q9 q10 qf ql
       obtain ⟨p0, p1, p2, p3, p4, p5, p6, p7, p8, p9, p10, pf⟩ := row11 RA.out; have pl := RA.out.lt; simp only at p0 p1 p2 p3 p4 p5 p6 p7 p8 p9 p10
       skip)
    | (go_at_call 21; refine (HR.out _ (IA4.out.below (below1 w4 _))).mono ?_; rintro en w5 ⟨A3, c3, rfl, ho, hb⟩
       have B5 : Hid (Below w.heap.size w w5) := below_more (B4.out.alloc B4.out.size _) hb (by have := B4.out.size; simp <;> omega)
       replace RA : Hid (Row w5 w.heap.size 28 (Dat.mk k t n f s ro rf rl rc pa l.length pc ia iN ic).cells) := (RA.out.alloc _).below hb (RA.out.alloc _).lt
       have RX5 : Hid (Row w5 w3.heap.size 28 (Dat.mk k' u n' f' s' ro' rf' rl' rc' A1 l'.length c1 none 0 0).cells) := (RX.out.alloc _).below hb (RX.out.alloc _).lt
       have RY5 : Hid (Row w5 w4.heap.size 28 (Dat.mk k' u n' f' s' ro' rf' rl' rc' A2 l'.length c2 none 0 0).cells) := (Row.made w4 28 (Dat.mk k' u n' f' s' ro' rf' rl' rc' A2 l'.length c2 none 0 0).cells).below hb (Row.made w4 28 (Dat.mk k' u n' f' s' ro' rf' rl' rc' A2 l'.length c2 none 0 0).cells).lt
       have G5 : Hid (Row w5 g 3 (intC (l ++ tail2))) := (G4.out.alloc _).below hb (G4.out.alloc _).lt
       have IA5 : Hid (IntsAt w5 pa l) := (IA4.out.below (below1 w4 _)).below hb
       have l34 : Hid (w3.heap.size < w4.heap.size) := RX.out.lt
       have O15 : Hid (OwnI w.heap.size w5 (.slice A1 l'.length c1) l') := (O14.out.alloc _).below hb (Nat.le_refl _)
       have O25 : Hid (OwnI w.heap.size w5 (.slice A2 l'.length c2) l') := (O2.out.alloc _).below hb (Nat.le_refl _)
       have P3 : Hid (Apart (.slice A3 l'.length c3) (.slice (some ⟨g, 0, none⟩) 0 0)) := Lib.hid (fun q h1 h2 => by
         have e1 := (ho.lt h1).1
         have := G4.out.lt
         simp only [Value.ownBlock, Option.some.injEq] at h2
         simp at e1
         omega)
       have O3 : Hid (OwnI w.heap.size w5 (.slice A3 l'.length c3) l') := OwnI.low ho (by have := B4.out.size; simp <;> omega)
       clear ho O14 O2
       clear hb HR B4 G4 IA4 RX p0 p1 p2 p3 p4 p5 p6 p7 p8 p9 p10 pf pl
       obtain ⟨p0, p1, p2, p3, p4, p5, p6, p7, p8, p9, p10, pf⟩ := row11 RA.out; have pl := RA.out.lt; simp only at p0 p1 p2 p3 p4 p5 p6 p7 p8 p9 p10
       skip)
    | (go_at_call 22; refine (back_any g l k t s n f ro rf rl rc pa ia pc iN ic _ ((G5.out.alloc _).alloc _) (IA5.out.below (below2 w5 _ _)) NE.out hl.out).mono ?_; rintro en w6 ⟨rfl, hgr⟩
       have q1 := g3.out
       have q2 := B5.out.size
       have q3 := gb.out
       have q4 := RX5.out.lt
       have q5 := RY5.out.lt
       have B6 : Hid (Below w.heap.size w w6) := Below.grown ((B5.out.alloc B5.out.size _).alloc (by simp; omega) _) hgr (by simp; omega) (fun q hq => by cases hq; omega)
       have RX6 : Hid (Row w6 w3.heap.size 28 (Dat.mk k' u n' f' s' ro' rf' rl' rc' A1 l'.length c1 none 0 0).cells) := ((RX5.out.alloc _).alloc _).grown hgr (fun e => by cases e; omega)
       have RY6 : Hid (Row w6 w4.heap.size 28 (Dat.mk k' u n' f' s' ro' rf' rl' rc' A2 l'.length c2 none 0 0).cells) := ((RY5.out.alloc _).alloc _).grown hgr (fun e => by have := l34.out; cases e; omega)
       have RW6 : Hid (Row w6 w5.heap.size 28 (Dat.mk k' u n' f' s' ro' rf' rl' rc' A3 l'.length c3 none 0 0).cells) := ((Row.made w5 28 (Dat.mk k' u n' f' s' ro' rf' rl' rc' A3 l'.length c3 none 0 0).cells).alloc _).grown hgr (fun e => by cases e; omega)
       have RF6 : Hid (Row w6 (w5.heap.size + 1) 35 [.string ⟨#[]⟩, .string ⟨#[]⟩]) := (row_atOne w5 _ 35 [.string ⟨#[]⟩, .string ⟨#[]⟩]).grown hgr (fun e => by cases e; omega)
       have O16 : Hid (OwnI w.heap.size w6 (.slice A1 l'.length c1) l') := OwnI.kept (u := .slice (some ⟨g, 0, none⟩) 0 0) ((O15.out.alloc _).alloc _) hgr P1.out
       have O26 : Hid (OwnI w.heap.size w6 (.slice A2 l'.length c2) l') := OwnI.kept (u := .slice (some ⟨g, 0, none⟩) 0 0) ((O25.out.alloc _).alloc _) hgr P2.out
       have O36 : Hid (OwnI w.heap.size w6 (.slice A3 l'.length c3) l') := OwnI.kept (u := .slice (some ⟨g, 0, none⟩) 0 0) ((O3.out.alloc _).alloc _) hgr P3.out
       clear O15 O25 O3 P1 P2 P3
       clear hgr q1 q2 q3 q4 q5 B5 RX5 RY5 G5 IA5 RA NE gb g3 p0 p1 p2 p3 p4 p5 p6 p7 p8 p9 p10 pf pl
       obtain ⟨x0, x1, x2, x3, x4, x5, x6, x7, x8, x9, x10, xf⟩ := row11 RX6.out; have xl := RX6.out.lt; simp only at x0 x1 x2 x3 x4 x5 x6 x7 x8 x9 x10
       obtain ⟨y0, y1, y2, y3, y4, y5, y6, y7, y8, y9, y10, yf⟩ := row11 RW6.out; have yl := RW6.out.lt; simp only at y0 y1 y2 y3 y4 y5 y6 y7 y8 y9 y10
       skip)
    | (go_at_call 14; have ord := RX6.out.lt; refine (HS.out A1 A3 c1 c3 _ O16.out.ints O36.out.ints).mono ?_; rintro en w7 ⟨rfl, hb⟩
       have B7 : Hid (Below w.heap.size w w7) := below_more B6.out hb B6.out.size
       have RX7 : Hid (Row w7 w3.heap.size 28 (Dat.mk k' u n' f' s' ro' rf' rl' rc' A1 l'.length c1 none 0 0).cells) := RX6.out.below hb RX6.out.lt
       have RY7 : Hid (Row w7 w4.heap.size 28 (Dat.mk k' u n' f' s' ro' rf' rl' rc' A2 l'.length c2 none 0 0).cells) := RY6.out.below hb RY6.out.lt
       have RW7 : Hid (Row w7 w5.heap.size 28 (Dat.mk k' u n' f' s' ro' rf' rl' rc' A3 l'.length c3 none 0 0).cells) := RW6.out.below hb RW6.out.lt
       have RF7 : Hid (Row w7 (w5.heap.size + 1) 35 [.string ⟨#[]⟩, .string ⟨#[]⟩]) := RF6.out.below hb RF6.out.lt
       have O17 : Hid (OwnI w.heap.size w7 (.slice A1 l'.length c1) l') := O16.out.below hb (Nat.le_refl _)
       have O27 : Hid (OwnI w.heap.size w7 (.slice A2 l'.length c2) l') := O26.out.below hb (Nat.le_refl _)
       have O37 : Hid (OwnI w.heap.size w7 (.slice A3 l'.length c3) l') := O36.out.below hb (Nat.le_refl _)
       clear hb ord B6 RX6 RY6 RW6 RF6 O16 O26 O36 x0 x1 x2 x3 x4 x5 x6 x7 x8 x9 x10 xf xl y0 y1 y2 y3 y4 y5 y6 y7 y8 y9 y10 yf yl
       obtain ⟨x0, x1, x2, x3, x4, x5, x6, x7, x8, x9, x10, xf⟩ := row11 RY7.out; have xl := RY7.out.lt; simp only at x0 x1 x2 x3 x4 x5 x6 x7 x8 x9 x10
       obtain ⟨y0, y1, y2, y3, y4, y5, y6, y7, y8, y9, y10, yf⟩ := row11 RW7.out; have yl := RW7.out.lt; simp only at y0 y1 y2 y3 y4 y5 y6 y7 y8 y9 y10
       skip)
    | (go_at_call 14; have ord := RX7.out.lt; refine (HS.out A2 A3 c2 c3 _ O27.out.ints O37.out.ints).mono ?_; rintro en w8 ⟨rfl, hb⟩
       have B8 : Hid (Below w.heap.size w w8) := below_more B7.out hb B7.out.size
       have RX8 : Hid (Row w8 w3.heap.size 28 (Dat.mk k' u n' f' s' ro' rf' rl' rc' A1 l'.length c1 none 0 0).cells) := RX7.out.below hb RX7.out.lt
       have RY8 : Hid (Row w8 w4.heap.size 28 (Dat.mk k' u n' f' s' ro' rf' rl' rc' A2 l'.length c2 none 0 0).cells) := RY7.out.below hb RY7.out.lt
       have RF8 : Hid (Row w8 (w5.heap.size + 1) 35 [.string ⟨#[]⟩, .string ⟨#[]⟩]) := RF7.out.below hb RF7.out.lt
       have O18 : Hid (OwnI w.heap.size w8 (.slice A1 l'.length c1) l') := O17.out.below hb (Nat.le_refl _)
       have O28 : Hid (OwnI w.heap.size w8 (.slice A2 l'.length c2) l') := O27.out.below hb (Nat.le_refl _)
       clear hb ord B7 RX7 RY7 RW7 RF7 O17 O27 O37 x0 x1 x2 x3 x4 x5 x6 x7 x8 x9 x10 xf xl y0 y1 y2 y3 y4 y5 y6 y7 y8 y9 y10 yf yl
       have z0 := RF8.out.cell 0; have z1 := RF8.out.cell 1; have zf := RF8.out.free; have zl := RF8.out.lt; simp only [List.getElem?_cons_zero, List.getElem?_cons_succ] at z0 z1
       skip)
    | (go_at_call 15; have ord := RX8.out.lt; refine (told_none _).mono ?_; rintro en w9 ⟨rfl, hb⟩
       have B9 : Hid (Below w.heap.size w w9) := below_more B8.out hb B8.out.size
       have RX9 : Hid (Row w9 w3.heap.size 28 (Dat.mk k' u n' f' s' ro' rf' rl' rc' A1 l'.length c1 none 0 0).cells) := RX8.out.below hb RX8.out.lt
       have RY9 : Hid (Row w9 w4.heap.size 28 (Dat.mk k' u n' f' s' ro' rf' rl' rc' A2 l'.length c2 none 0 0).cells) := RY8.out.below hb RY8.out.lt
       have RF9 : Hid (Row w9 (w5.heap.size + 1) 35 [.string ⟨#[]⟩, .string ⟨#[]⟩]) := RF8.out.below hb RF8.out.lt
       have O19 : Hid (OwnI w.heap.size w9 (.slice A1 l'.length c1) l') := O18.out.below hb (Nat.le_refl _)
       have O29 : Hid (OwnI w.heap.size w9 (.slice A2 l'.length c2) l') := O28.out.below hb (Nat.le_refl _)
       clear hb ord B8 RX8 RY8 RF8 O18 O28 z0 z1 zf zl
       have z0 := RF9.out.cell 0; have z1 := RF9.out.cell 1; have zf := RF9.out.free; have zl := RF9.out.lt; simp only [List.getElem?_cons_zero, List.getElem?_cons_succ] at z0 z1
       skip)
    | (go_at_call 15; have ord := RX9.out.lt; refine (told_none _).mono ?_; rintro en w10 ⟨rfl, hb⟩
       have B10 : Hid (Below w.heap.size w w10) := below_more B9.out hb B9.out.size
       have RX10 : Hid (Row w10 w3.heap.size 28 (Dat.mk k' u n' f' s' ro' rf' rl' rc' A1 l'.length c1 none 0 0).cells) := RX9.out.below hb RX9.out.lt
       have RY10 : Hid (Row w10 w4.heap.size 28 (Dat.mk k' u n' f' s' ro' rf' rl' rc' A2 l'.length c2 none 0 0).cells) := RY9.out.below hb RY9.out.lt
       have O110 : Hid (OwnI w.heap.size w10 (.slice A1 l'.length c1) l') := O19.out.below hb (Nat.le_refl _)
       have O210 : Hid (OwnI w.heap.size w10 (.slice A2 l'.length c2) l') := O29.out.below hb (Nat.le_refl _)
       clear hb ord B9 RX9 RY9 RF9 O19 O29 z0 z1 zf zl)
    | (go_at_call 16; have ord := RX10.out.lt; refine (fresh_none _).mono ?_; rintro en w11 ⟨rfl, hb⟩
       have B11 : Hid (Below w.heap.size w w11) := below_more B10.out hb B10.out.size
       have RX11 : Hid (Row w11 w3.heap.size 28 (Dat.mk k' u n' f' s' ro' rf' rl' rc' A1 l'.length c1 none 0 0).cells) := RX10.out.below hb RX10.out.lt
       have RY11 : Hid (Row w11 w4.heap.size 28 (Dat.mk k' u n' f' s' ro' rf' rl' rc' A2 l'.length c2 none 0 0).cells) := RY10.out.below hb RY10.out.lt
       have O111 : Hid (OwnI w.heap.size w11 (.slice A1 l'.length c1) l') := O110.out.below hb (Nat.le_refl _)
       have O211 : Hid (OwnI w.heap.size w11 (.slice A2 l'.length c2) l') := O210.out.below hb (Nat.le_refl _)
       clear hb ord B10 RX10 RY10 O110 O210
       obtain ⟨x0, x1, x2, x3, x4, x5, x6, x7, x8, x9, x10, xf⟩ := row11 RX11.out; have xl := RX11.out.lt; simp only at x0 x1 x2 x3 x4 x5 x6 x7 x8 x9 x10
       obtain ⟨y0, y1, y2, y3, y4, y5, y6, y7, y8, y9, y10, yf⟩ := row11 RY11.out; have yl := RY11.out.lt; simp only at y0 y1 y2 y3 y4 y5 y6 y7 y8 y9 y10
       skip)
    | (go_at_call 23; have ord := RX11.out.lt; refine (owns_any A1 A2 c1 c2 l' l' w.heap.size _ O111.out O211.out P12.out hl'.out hl'.out B11.out.size).mono ?_; rintro en w12 ⟨rfl, hb⟩
       have B12 : Hid (Below w.heap.size w w12) := B11.out.trans hb
       clear hb ord B11 RX11 RY11 x0 x1 x2 x3 x4 x5 x6 x7 x8 x9 x10 xf xl y0 y1 y2 y3 y4 y5 y6 y7 y8 y9 y10 yf yl))
  go_returns
  exact ⟨rfl, B12.out⟩
set_option maxRecDepth 200000 in
set_option maxHeartbeats 16000000 in
theorem convLaw_fault (k0 : Int) (u : ByteArray) (l : List Int) (k : Int) (t s : ByteArray) (n f ro rf rl rc : Int) (pa ia : Option Addr) (pc iN ic : Nat) (m : ByteArray) (w : World) (hG : Glob w) (hA : IntsAt w pa l) (hl : l.length ≤ 17592186043904)
    (hC : ∀ (g : Nat) (W : World), IntsAt W (some ⟨g, 0, none⟩) l → Calls Tryz.prog 20 #[.int .i64 k0, .string u, (Dat.mk k t n f s ro rf rl rc (some ⟨g, 0, none⟩) l.length (l.length + 2) ia iN ic).val] W fun e w' => ∃ v, e = .returned (.tuple #[zeroD.val, v]) ∧ IsFault W w' v sOperand m ∧ Below W.heap.size W w')
    (hR : ∀ W : World, IntsAt W pa l → Calls Tryz.prog 21 #[.int .i64 k0, .string u, (Dat.mk k t n f s ro rf rl rc pa l.length pc ia iN ic).val] W fun e w' => e = .returned (.tuple #[zeroD.val, .agg #[.string sOperand, .string m]]) ∧ Below W.heap.size W w') :
    Calls Tryz.prog 5 #[.int .i64 k0, .string u, (Dat.mk k t n f s ro rf rl rc pa l.length pc ia iN ic).val] w fun e w' => e = .returned (.bool true) ∧ Below w.heap.size w w' := by
  have h11 := Lib.hid fun w (h : Glob w) => known_any w h
  have HG := Lib.hid hG
  have HA := Lib.hid hA
  have ht : Hid ((sOperand.toList == []) = false) := Lib.hid (by rw [ByteArray.toList_eq]; rfl)
  replace hl := Lib.hid hl
  simp only [Dat.val, zeroD, mk] at hC hR
  have h19 := fun (W : World) (h : IntsAt W pa l) => lent_any l k t s n f ro rf rl rc pa ia pc iN ic W h hl.out
  simp only [Dat.val] at h19
  have H19 := Lib.hid h19
  clear h19
  have HC1 := Lib.hid hC
  have HC2 := Lib.hid hC
  have HR := Lib.hid hR
  clear hC hR hG hA
  simp only [Dat.val]
  go_enter Tryz.func5, Tryz.ntmps5
  go_wp2_with (first
    | (go_at_call 11; refine (h11.out _ ?hg).mono ?_
       case hg => exact HG.out.below (below1 w _)
       rintro en w1 ⟨rfl, hb⟩
       have B1 : Hid (Below w.heap.size w w1) := below_more (below1 w _) hb (by simp <;> omega)
       have RA : Hid (Row w1 w.heap.size 28 (Dat.mk k t n f s ro rf rl rc pa l.length pc ia iN ic).cells) := (Row.made w 28 (Dat.mk k t n f s ro rf rl rc pa l.length pc ia iN ic).cells).below hb (Row.made w 28 (Dat.mk k t n f s ro rf rl rc pa l.length pc ia iN ic).cells).lt
       have IA : Hid (IntsAt w1 pa l) := HA.out.below B1.out
       obtain ⟨p0, p1, p2, p3, p4, p5, p6, p7, p8, p9, p10, pf⟩ := row11 RA.out; have pl := RA.out.lt; simp only at p0 p1 p2 p3 p4 p5 p6 p7 p8 p9 p10
       clear hb h11 HG)
    | (go_at_call 19; refine (H19.out _ IA.out).mono ?_
       rintro en w2 ⟨g, hg, rfl, hG, hb⟩
       have B2 : Hid (Below w.heap.size w w2) := below_more B1.out hb B1.out.size
       replace RA : Hid (Row w2 w.heap.size 28 (Dat.mk k t n f s ro rf rl rc pa l.length pc ia iN ic).cells) := RA.out.below hb RA.out.lt
       have IA2 : Hid (IntsAt w2 pa l) := IA.out.below hb
       have G2 : Hid (Row w2 g 3 (intC (l ++ tail2))) := hG
       have NE : Hid (0 < l.length → ∀ a, pa = some a → a.block ≠ g) := Lib.hid (fun hp a ha => by
         obtain ⟨b', off, e, hlt, _⟩ := HA.out.at_ hp
         have := B1.out.size
         rw [e] at ha
         cases ha
         show b' ≠ g
         omega)
       have gb : Hid (w.heap.size < g) := Lib.hid (Nat.lt_of_lt_of_le pl hg)
       clear hb B1 hG hg IA H19 p0 p1 p2 p3 p4 p5 p6 p7 p8 p9 p10 pf pl)
    | (go_at_call 20; refine (HC1.out g _ (ints_front (G2.out.alloc _))).mono ?_; rintro en w3 ⟨v1, rfl, ⟨g1, rfl, hg1, hf1⟩, hb⟩
       have g2 := G2.out.lt
       have B3 : Hid (Below w.heap.size w w3) := below_more (B2.out.alloc B2.out.size _) hb (by have := B2.out.size; simp <;> omega)
       replace RA : Hid (Row w3 w.heap.size 28 (Dat.mk k t n f s ro rf rl rc pa l.length pc ia iN ic).cells) := (RA.out.alloc _).below hb (RA.out.alloc _).lt
       have T8 : Hid (Row w3 w2.heap.size 28 (Dat.mk k t n f s ro rf rl rc (some ⟨g, 0, none⟩) l.length (l.length + 2) ia iN ic).cells) := (Row.made w2 28 (Dat.mk k t n f s ro rf rl rc (some ⟨g, 0, none⟩) l.length (l.length + 2) ia iN ic).cells).below hb (Row.made w2 28 (Dat.mk k t n f s ro rf rl rc (some ⟨g, 0, none⟩) l.length (l.length + 2) ia iN ic).cells).lt
       have G3 : Hid (Row w3 g 3 (intC (l ++ tail2))) := (G2.out.alloc _).below hb (G2.out.alloc _).lt
       have IA3 : Hid (IntsAt w3 pa l) := (IA2.out.below (below1 w2 _)).below hb
       have g3 : Hid (g < w3.heap.size) := G3.out.lt
       have F1 : Hid (Row w3 g1 35 [.string sOperand, .string m]) := hf1
       clear hf1
       clear hb HC1 B2 G2 IA2 g2
       obtain ⟨q0, q1, q2, q3, q4, q5, q6, q7, q8, q9, q10, qf⟩ := row11 T8.out; have ql := T8.out.lt; simp only at q0 q1 q2 q3 q4 q5 q6 q7 q8 q9 q10
       skip)
    | (go_at_call 20; refine (HC2.out g _ (ints_front (G3.out.alloc _))).mono ?_; rintro en w4 ⟨v2, rfl, ⟨g2, rfl, hg2, hf2⟩, hb⟩
       have B4 : Hid (Below w.heap.size w w4) := below_more (B3.out.alloc B3.out.size _) hb (by have := B3.out.size; simp <;> omega)
       replace RA : Hid (Row w4 w.heap.size 28 (Dat.mk k t n f s ro rf rl rc pa l.length pc ia iN ic).cells) := (RA.out.alloc _).below hb (RA.out.alloc _).lt
       have RX : Hid (Row w4 w3.heap.size 28 zeroD.cells) := (Row.made w3 28 zeroD.cells).below hb (Row.made w3 28 zeroD.cells).lt
       have G4 : Hid (Row w4 g 3 (intC (l ++ tail2))) := (G3.out.alloc _).below hb (G3.out.alloc _).lt
       have IA4 : Hid (IntsAt w4 pa l) := (IA3.out.below (below1 w3 _)).below hb
       have F14 : Hid (Row w4 g1 35 [.string sOperand, .string m]) := (F1.out.alloc _).below hb (F1.out.alloc _).lt
       have F2 : Hid (Row w4 g2 35 [.string sOperand, .string m]) := hf2
       have gn : Hid (g1 ≠ g2) := Lib.hid (by have := F1.out.lt; simp at hg2; omega)
       clear hf2 hg2 F1
       clear hb HC2 B3 G3 IA3 T8 q0 q1 q2 q3 q4 q5 q6 q7 q8 q9 q10 qf ql
       obtain ⟨p0, p1, p2, p3, p4, p5, p6, p7, p8, p9, p10, pf⟩ := row11 RA.out; have pl := RA.out.lt; simp only at p0 p1 p2 p3 p4 p5 p6 p7 p8 p9 p10
       skip)
    | (go_at_call 21; refine (HR.out _ (IA4.out.below (below1 w4 _))).mono ?_; rintro en w5 ⟨rfl, hb⟩
       have B5 : Hid (Below w.heap.size w w5) := below_more (B4.out.alloc B4.out.size _) hb (by have := B4.out.size; simp <;> omega)
       replace RA : Hid (Row w5 w.heap.size 28 (Dat.mk k t n f s ro rf rl rc pa l.length pc ia iN ic).cells) := (RA.out.alloc _).below hb (RA.out.alloc _).lt
       have RX5 : Hid (Row w5 w3.heap.size 28 zeroD.cells) := (RX.out.alloc _).below hb (RX.out.alloc _).lt
       have RY5 : Hid (Row w5 w4.heap.size 28 zeroD.cells) := (Row.made w4 28 zeroD.cells).below hb (Row.made w4 28 zeroD.cells).lt
       have G5 : Hid (Row w5 g 3 (intC (l ++ tail2))) := (G4.out.alloc _).below hb (G4.out.alloc _).lt
       have IA5 : Hid (IntsAt w5 pa l) := (IA4.out.below (below1 w4 _)).below hb
       have l34 : Hid (w3.heap.size < w4.heap.size) := RX.out.lt
       have F15 : Hid (Row w5 g1 35 [.string sOperand, .string m]) := (F14.out.alloc _).below hb (F14.out.alloc _).lt
       have F25 : Hid (Row w5 g2 35 [.string sOperand, .string m]) := (F2.out.alloc _).below hb (F2.out.alloc _).lt
       clear F14 F2
       clear hb HR B4 G4 IA4 RX p0 p1 p2 p3 p4 p5 p6 p7 p8 p9 p10 pf pl
       obtain ⟨p0, p1, p2, p3, p4, p5, p6, p7, p8, p9, p10, pf⟩ := row11 RA.out; have pl := RA.out.lt; simp only at p0 p1 p2 p3 p4 p5 p6 p7 p8 p9 p10
       skip)
    | (go_at_call 22; refine (back_any g l k t s n f ro rf rl rc pa ia pc iN ic _ ((G5.out.alloc _).alloc _) (IA5.out.below (below2 w5 _ _)) NE.out hl.out).mono ?_; rintro en w6 ⟨rfl, hgr⟩
       have q1 := g3.out
       have q2 := B5.out.size
       have q3 := gb.out
       have q4 := RX5.out.lt
       have q5 := RY5.out.lt
       have B6 : Hid (Below w.heap.size w w6) := Below.grown ((B5.out.alloc B5.out.size _).alloc (by simp; omega) _) hgr (by simp; omega) (fun q hq => by cases hq; omega)
       have RX6 : Hid (Row w6 w3.heap.size 28 zeroD.cells) := ((RX5.out.alloc _).alloc _).grown hgr (fun e => by cases e; omega)
       have RY6 : Hid (Row w6 w4.heap.size 28 zeroD.cells) := ((RY5.out.alloc _).alloc _).grown hgr (fun e => by have := l34.out; cases e; omega)
       have RW6 : Hid (Row w6 w5.heap.size 28 zeroD.cells) := ((Row.made w5 28 zeroD.cells).alloc _).grown hgr (fun e => by cases e; omega)
       have RF6 : Hid (Row w6 (w5.heap.size + 1) 35 [.string sOperand, .string m]) := (row_atOne w5 _ 35 [.string sOperand, .string m]).grown hgr (fun e => by cases e; omega)
       have F16 : Hid (Row w6 g1 35 [.string sOperand, .string m]) := ((F15.out.alloc _).alloc _).grown hgr (fun e => by cases e; exact absurd (F15.out.symm.trans G5.out) (by simp))
       have F26 : Hid (Row w6 g2 35 [.string sOperand, .string m]) := ((F25.out.alloc _).alloc _).grown hgr (fun e => by cases e; exact absurd (F25.out.symm.trans G5.out) (by simp))
       clear F15 F25
       clear hgr q1 q2 q3 q4 q5 B5 RX5 RY5 G5 IA5 RA NE gb g3 p0 p1 p2 p3 p4 p5 p6 p7 p8 p9 p10 pf pl
       obtain ⟨x0, x1, x2, x3, x4, x5, x6, x7, x8, x9, x10, xf⟩ := row11 RX6.out; have xl := RX6.out.lt; simp only [zeroD, mk] at x0 x1 x2 x3 x4 x5 x6 x7 x8 x9 x10
       obtain ⟨y0, y1, y2, y3, y4, y5, y6, y7, y8, y9, y10, yf⟩ := row11 RW6.out; have yl := RW6.out.lt; simp only [zeroD, mk] at y0 y1 y2 y3 y4 y5 y6 y7 y8 y9 y10
       skip)
    | (go_at_call 14; have ord := RX6.out.lt; refine (same_path 0 0 0 0 0 0 0 ⟨#[]⟩ ⟨#[]⟩ none none 0 0 ([] : List Int) _ (Lies.none_ _ _) (Lies.none_ _ _) (by simp)).mono ?_; rintro en w7 ⟨rfl, hb⟩
       have B7 : Hid (Below w.heap.size w w7) := below_more B6.out hb B6.out.size
       have RX7 : Hid (Row w7 w3.heap.size 28 zeroD.cells) := RX6.out.below hb RX6.out.lt
       have RY7 : Hid (Row w7 w4.heap.size 28 zeroD.cells) := RY6.out.below hb RY6.out.lt
       have RW7 : Hid (Row w7 w5.heap.size 28 zeroD.cells) := RW6.out.below hb RW6.out.lt
       have RF7 : Hid (Row w7 (w5.heap.size + 1) 35 [.string sOperand, .string m]) := RF6.out.below hb RF6.out.lt
       have F17 : Hid (Row w7 g1 35 [.string sOperand, .string m]) := F16.out.below hb F16.out.lt
       have F27 : Hid (Row w7 g2 35 [.string sOperand, .string m]) := F26.out.below hb F26.out.lt
       clear hb ord B6 RX6 RY6 RW6 RF6 F16 F26 x0 x1 x2 x3 x4 x5 x6 x7 x8 x9 x10 xf xl y0 y1 y2 y3 y4 y5 y6 y7 y8 y9 y10 yf yl
       obtain ⟨x0, x1, x2, x3, x4, x5, x6, x7, x8, x9, x10, xf⟩ := row11 RY7.out; have xl := RY7.out.lt; simp only [zeroD, mk] at x0 x1 x2 x3 x4 x5 x6 x7 x8 x9 x10
       obtain ⟨y0, y1, y2, y3, y4, y5, y6, y7, y8, y9, y10, yf⟩ := row11 RW7.out; have yl := RW7.out.lt; simp only [zeroD, mk] at y0 y1 y2 y3 y4 y5 y6 y7 y8 y9 y10
       skip)
    | (go_at_call 14; have ord := RX7.out.lt; refine (same_path 0 0 0 0 0 0 0 ⟨#[]⟩ ⟨#[]⟩ none none 0 0 ([] : List Int) _ (Lies.none_ _ _) (Lies.none_ _ _) (by simp)).mono ?_; rintro en w8 ⟨rfl, hb⟩
       have B8 : Hid (Below w.heap.size w w8) := below_more B7.out hb B7.out.size
       have RX8 : Hid (Row w8 w3.heap.size 28 zeroD.cells) := RX7.out.below hb RX7.out.lt
       have RY8 : Hid (Row w8 w4.heap.size 28 zeroD.cells) := RY7.out.below hb RY7.out.lt
       have RF8 : Hid (Row w8 (w5.heap.size + 1) 35 [.string sOperand, .string m]) := RF7.out.below hb RF7.out.lt
       have F18 : Hid (Row w8 g1 35 [.string sOperand, .string m]) := F17.out.below hb F17.out.lt
       have F28 : Hid (Row w8 g2 35 [.string sOperand, .string m]) := F27.out.below hb F27.out.lt
       clear hb ord B7 RX7 RY7 RW7 RF7 F17 F27 x0 x1 x2 x3 x4 x5 x6 x7 x8 x9 x10 xf xl y0 y1 y2 y3 y4 y5 y6 y7 y8 y9 y10 yf yl
       have z0 := RF8.out.cell 0; have z1 := RF8.out.cell 1; have zf := RF8.out.free; have zl := RF8.out.lt; simp only [List.getElem?_cons_zero, List.getElem?_cons_succ] at z0 z1
       skip)
    | (go_at_call 15; have ord := RX8.out.lt; refine (told_fault g1 _ _ _ _ _ F18.out ht.out).mono ?_; rintro en w9 ⟨rfl, hb⟩
       have B9 : Hid (Below w.heap.size w w9) := below_more B8.out hb B8.out.size
       have RX9 : Hid (Row w9 w3.heap.size 28 zeroD.cells) := RX8.out.below hb RX8.out.lt
       have RY9 : Hid (Row w9 w4.heap.size 28 zeroD.cells) := RY8.out.below hb RY8.out.lt
       have RF9 : Hid (Row w9 (w5.heap.size + 1) 35 [.string sOperand, .string m]) := RF8.out.below hb RF8.out.lt
       have F19 : Hid (Row w9 g1 35 [.string sOperand, .string m]) := F18.out.below hb F18.out.lt
       have F29 : Hid (Row w9 g2 35 [.string sOperand, .string m]) := F28.out.below hb F28.out.lt
       clear hb ord B8 RX8 RY8 RF8 F18 F28 z0 z1 zf zl
       have z0 := RF9.out.cell 0; have z1 := RF9.out.cell 1; have zf := RF9.out.free; have zl := RF9.out.lt; simp only [List.getElem?_cons_zero, List.getElem?_cons_succ] at z0 z1
       skip)
    | (go_at_call 15; have ord := RX9.out.lt; refine (told_fault g2 _ _ _ _ _ F29.out ht.out).mono ?_; rintro en w10 ⟨rfl, hb⟩
       have B10 : Hid (Below w.heap.size w w10) := below_more B9.out hb B9.out.size
       have RX10 : Hid (Row w10 w3.heap.size 28 zeroD.cells) := RX9.out.below hb RX9.out.lt
       have RY10 : Hid (Row w10 w4.heap.size 28 zeroD.cells) := RY9.out.below hb RY9.out.lt
       have F110 : Hid (Row w10 g1 35 [.string sOperand, .string m]) := F19.out.below hb F19.out.lt
       have F210 : Hid (Row w10 g2 35 [.string sOperand, .string m]) := F29.out.below hb F29.out.lt
       clear hb ord B9 RX9 RY9 RF9 F19 F29 z0 z1 zf zl)
    | (go_at_call 16; have ord := RX10.out.lt; refine (fresh_two g1 g2 _ _ _ gn.out F110.out F210.out).mono ?_; rintro en w11 ⟨rfl, hb⟩
       have B11 : Hid (Below w.heap.size w w11) := below_more B10.out hb B10.out.size
       have RX11 : Hid (Row w11 w3.heap.size 28 zeroD.cells) := RX10.out.below hb RX10.out.lt
       have RY11 : Hid (Row w11 w4.heap.size 28 zeroD.cells) := RY10.out.below hb RY10.out.lt
       clear hb ord B10 RX10 RY10 F110 F210
       obtain ⟨x0, x1, x2, x3, x4, x5, x6, x7, x8, x9, x10, xf⟩ := row11 RX11.out; have xl := RX11.out.lt; simp only [zeroD, mk] at x0 x1 x2 x3 x4 x5 x6 x7 x8 x9 x10
       obtain ⟨y0, y1, y2, y3, y4, y5, y6, y7, y8, y9, y10, yf⟩ := row11 RY11.out; have yl := RY11.out.lt; simp only [zeroD, mk] at y0 y1 y2 y3 y4 y5 y6 y7 y8 y9 y10
       skip)
    | (go_at_call 23; have ord := RX11.out.lt; refine (owns_any none none 0 0 ([] : List Int) ([] : List Int) w.heap.size _ (OwnI.nil _ _) (OwnI.nil _ _) (fun q h1 _ => by simp [Value.ownBlock] at h1) (by simp) (by simp) B11.out.size).mono ?_; rintro en w12 ⟨rfl, hb⟩
       have B12 : Hid (Below w.heap.size w w12) := B11.out.trans hb
       clear hb ord B11 RX11 RY11 x0 x1 x2 x3 x4 x5 x6 x7 x8 x9 x10 xf xl y0 y1 y2 y3 y4 y5 y6 y7 y8 y9 y10 yf yl))
  go_returns
  exact ⟨rfl, B12.out⟩
end Go.Proofs.YtehakhplglhkdaaGreatDoor
