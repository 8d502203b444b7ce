/- The walk of NumberReads, by what the four readers answer. Conditions: what strconv reads of the package's variables. -/
import Derived.Test.YtehakhplglhkdaaGreatDoorReadG
import Derived.Test.YtehakhplglhkdaaGreatDoorUnaryLaw
namespace Go.Proofs.YtehakhplglhkdaaGreatDoor
set_option linter.unusedVariables false
open Go.RowKit

set_option maxRecDepth 200000 in
set_option maxHeartbeats 8000000 in
theorem readLaw (s : ByteArray) (k1 n1 f1 k2 n2 f2 : Int) (t1 t2 : ByteArray) (r1 r2 : Bool) (w : World) (hG : Glob w) (hE : GlobE w)
    (h24 : ∀ W, Glob W → GlobE W → Calls Tryz.prog 24 #[.string s] W fun e w' => e = .returned (.tuple #[(mk k1 t1 n1 f1 ⟨#[]⟩).val, .bool r1]) ∧ Below W.heap.size W w')
    (h25 : ∀ W, Glob W → GlobE W → Calls Tryz.prog 25 #[.string s] W fun e w' => e = .returned (.tuple #[(mk k1 t1 n1 f1 ⟨#[]⟩).val, .bool r1]) ∧ Below W.heap.size W w')
    (h26 : ∀ W, Glob W → GlobE W → Calls Tryz.prog 26 #[.string s] W fun e w' => e = .returned (.tuple #[(mk k2 t2 n2 f2 ⟨#[]⟩).val, .bool r2]) ∧ Below W.heap.size W w')
    (h27 : ∀ W, Glob W → GlobE W → Calls Tryz.prog 27 #[.string s] W fun e w' => e = .returned (.tuple #[(mk k2 t2 n2 f2 ⟨#[]⟩).val, .bool r2]) ∧ Below W.heap.size W w') :
    Calls Tryz.prog 6 #[.string s] w fun e w' => e = .returned (.bool true) ∧ Below w.heap.size w w' := by
  have h11 := Lib.hid fun w (h : Glob w) => known_any w h
  have HG := Lib.hid hG
  have HE := Lib.hid hE
  have hS1 := fun w => same_mk k1 n1 f1 t1 ⟨#[]⟩ w
  have hS2 := fun w => same_mk k2 n2 f2 t2 ⟨#[]⟩ w
  simp only [mk, Dat.val] at hS1 hS2 h24 h25 h26 h27
  have H24 := Lib.hid h24
  have H25 := Lib.hid h25
  have H26 := Lib.hid h26
  have H27 := Lib.hid h27
  have HS1 := Lib.hid hS1
  have HS2 := Lib.hid hS2
  have q1 : (r1 == r1) = true := by simp
  have q2 : (r2 == r2) = true := by simp
  clear h24 h25 h26 h27 hS1 hS2 hG hE
  go_enter Tryz.func6, Tryz.ntmps6
  go_wp2_with (first
    | (go_at_call 11; refine (h11.out _ HG.out).mono ?_
       rintro en w1 ⟨rfl, hb⟩
       have B1 : Hid (Below w.heap.size w w1) := hb
       clear hb h11)
    | (go_at_call 24; have ord := B1.out.size; refine (H24.out _ (HG.out.below B1.out) (HE.out.below B1.out)).mono ?_; rintro en w2 ⟨rfl, hb⟩
       have B2 : Hid (Below w.heap.size w w2) := below_more B1.out hb (by first | omega | (simp <;> omega))
       clear hb ord H24 B1
       skip)
    | (go_at_call 25; have ord := B2.out.size; refine (H25.out _ (HG.out.below (B2.out.alloc B2.out.size _)) (HE.out.below (B2.out.alloc B2.out.size _))).mono ?_; rintro en w3 ⟨rfl, hb⟩
       have B3 : Hid (Below w.heap.size w w3) := below_more (B2.out.alloc B2.out.size _) hb (by first | omega | (simp <;> omega))
       have X1 : Hid (Row w3 w2.heap.size 28 (mk k1 t1 n1 f1 ⟨#[]⟩).cells) := (Row.made w2 28 (mk k1 t1 n1 f1 ⟨#[]⟩).cells).below hb (Row.made w2 28 (mk k1 t1 n1 f1 ⟨#[]⟩).cells).lt
       clear hb ord H25 B2
       skip)
    | (go_at_call 26; have ord := B3.out.size; refine (H26.out _ (HG.out.below (B3.out.alloc B3.out.size _)) (HE.out.below (B3.out.alloc B3.out.size _))).mono ?_; rintro en w4 ⟨rfl, hb⟩
       have B4 : Hid (Below w.heap.size w w4) := below_more (B3.out.alloc B3.out.size _) hb (by first | omega | (simp <;> omega))
       replace X1 : Hid (Row w4 w2.heap.size 28 (mk k1 t1 n1 f1 ⟨#[]⟩).cells) := (X1.out.alloc _).below hb (X1.out.alloc _).lt
       have X2 : Hid (Row w4 w3.heap.size 28 (mk k1 t1 n1 f1 ⟨#[]⟩).cells) := (Row.made w3 28 (mk k1 t1 n1 f1 ⟨#[]⟩).cells).below hb (Row.made w3 28 (mk k1 t1 n1 f1 ⟨#[]⟩).cells).lt
       clear hb ord H26 B3
       skip)
    | (go_at_call 27; have ord := B4.out.size; refine (H27.out _ (HG.out.below (B4.out.alloc B4.out.size _)) (HE.out.below (B4.out.alloc B4.out.size _))).mono ?_; rintro en w5 ⟨rfl, hb⟩
       have B5 : Hid (Below w.heap.size w w5) := below_more (B4.out.alloc B4.out.size _) hb (by first | omega | (simp <;> omega))
       replace X1 : Hid (Row w5 w2.heap.size 28 (mk k1 t1 n1 f1 ⟨#[]⟩).cells) := (X1.out.alloc _).below hb (X1.out.alloc _).lt
       replace X2 : Hid (Row w5 w3.heap.size 28 (mk k1 t1 n1 f1 ⟨#[]⟩).cells) := (X2.out.alloc _).below hb (X2.out.alloc _).lt
       have X3 : Hid (Row w5 w4.heap.size 28 (mk k2 t2 n2 f2 ⟨#[]⟩).cells) := (Row.made w4 28 (mk k2 t2 n2 f2 ⟨#[]⟩).cells).below hb (Row.made w4 28 (mk k2 t2 n2 f2 ⟨#[]⟩).cells).lt
       clear hb ord H27 B4
       obtain ⟨x0, x1, x2, x3, x4, x5, x6, x7, x8, x9, x10, xf⟩ := row11 X1.out; have xl := X1.out.lt; simp only [mk] at x0 x1 x2 x3 x4 x5 x6 x7 x8 x9 x10
       obtain ⟨y0, y1, y2, y3, y4, y5, y6, y7, y8, y9, y10, yf⟩ := row11 X2.out; have yl := X2.out.lt; simp only [mk] at y0 y1 y2 y3 y4 y5 y6 y7 y8 y9 y10
       skip)
    | (go_at_call 14; refine (HS1.out _).mono ?_; rintro en w6 ⟨rfl, hb⟩
       have B6 : Hid (Below w.heap.size w w6) := below_more (B5.out.alloc B5.out.size _) hb (by have := B5.out.size; simp <;> omega)
       replace X3 : Hid (Row w6 w4.heap.size 28 (mk k2 t2 n2 f2 ⟨#[]⟩).cells) := (X3.out.alloc _).below hb (X3.out.alloc _).lt
       have X4 : Hid (Row w6 w5.heap.size 28 (mk k2 t2 n2 f2 ⟨#[]⟩).cells) := (Row.made w5 28 (mk k2 t2 n2 f2 ⟨#[]⟩).cells).below hb (Row.made w5 28 (mk k2 t2 n2 f2 ⟨#[]⟩).cells).lt
       clear hb HS1 B5 X1 X2 x0 x1 x2 x3 x4 x5 x6 x7 x8 x9 x10 xf xl y0 y1 y2 y3 y4 y5 y6 y7 y8 y9 y10 yf yl
       obtain ⟨x0, x1, x2, x3, x4, x5, x6, x7, x8, x9, x10, xf⟩ := row11 X3.out; have xl := X3.out.lt; simp only [mk] at x0 x1 x2 x3 x4 x5 x6 x7 x8 x9 x10
       obtain ⟨y0, y1, y2, y3, y4, y5, y6, y7, y8, y9, y10, yf⟩ := row11 X4.out; have yl := X4.out.lt; simp only [mk] at y0 y1 y2 y3 y4 y5 y6 y7 y8 y9 y10
       skip)
    | (go_at_call 14; have ord := B6.out.size; refine (HS2.out _).mono ?_; rintro en w7 ⟨rfl, hb⟩
       have B7 : Hid (Below w.heap.size w w7) := below_more B6.out hb B6.out.size
       clear hb ord HS2 B6 X3 X4 x0 x1 x2 x3 x4 x5 x6 x7 x8 x9 x10 xf xl y0 y1 y2 y3 y4 y5 y6 y7 y8 y9 y10 yf yl))
  go_returns
  exact ⟨rfl, B7.out⟩
end Go.Proofs.YtehakhplglhkdaaGreatDoor
