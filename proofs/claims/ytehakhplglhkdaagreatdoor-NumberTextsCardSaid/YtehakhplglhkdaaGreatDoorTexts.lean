/- The walk of the law NumberTexts: it returns true, and what was there stays. Conditions: what strconv reads of the package's variables; no text of more than 2^62 bytes. -/
import Derived.Test.YtehakhplglhkdaaGreatDoorTextBin
import Derived.Test.YtehakhplglhkdaaGreatDoorKnown
namespace Go.Proofs.YtehakhplglhkdaaGreatDoor
set_option linter.unusedVariables false
open Go.RowKit

theorem row_at1 (w : World) (A : Obj) (t : TypeId) (cs : List Value) : Row ((w.alloc A).alloc (.cells cs.toArray t)) (w.heap.size + 1) t cs := by
  have := Row.made (w.alloc A) t cs
  simpa using this

set_option maxRecDepth 200000 in
set_option maxHeartbeats 4000000 in
theorem texts_long (t a b c : ByteArray) (w : World) (hab : 65536 < a.size + b.size) (ha : a.size ≤ 4611686018427387903) (hb0 : b.size ≤ 4611686018427387903) (hG : Glob w) (htab : Lib.TabIs Tryz.prog w "internal/strconv.uint64pow10" .u64 Lib.pow10Tab) :
    Calls Tryz.prog 9 #[.string t, .string a, .string b, .string c] w fun e w' => e = .returned (.bool true) ∧ Below w.heap.size w w' := by
  have h11 := known_any w hG
  have HTAB := Lib.hid (Lib.tabBelow_of_tabIs htab)
  have HC1 := Lib.hid fun W (hW : Below w.heap.size w W) => txt_count t a b W hab ha hb0 (HTAB.out _ hW)
  have h1 : (65536 : Int) < (a.size : Int) + (b.size : Int) := by omega
  have h2 : (a.size : Int) + (b.size : Int) ≤ 9223372036854775806 := by omega
  clear hab ha hb0
  unfold zeroD at HC1
  unfold txt mk Dat.val at HC1
  clear hG htab
  go_enter Tryz.func9, Tryz.ntmps9
  go_wp2_with (first
    | (go_at_call 11; refine h11.mono ?_; rintro en w1 ⟨rfl, hb⟩; have B1 := Lib.hid hb; clear hb h11)
    | (go_at_call 17; refine (HC1.out _ ?hW).mono ?_
       case hW => exact ((B1.out.alloc B1.out.size _).alloc (by have := B1.out.size; simp; omega) _).alloc (by have := B1.out.size; simp; omega) _
       rintro en w2 ⟨v, m, rfl, ⟨g, rfl, hg, hr⟩, hb⟩
       have B2 : Hid (Below w.heap.size w w2) := below_more (((B1.out.alloc B1.out.size _).alloc (by have := B1.out.size; simp; omega) _).alloc (by have := B1.out.size; simp; omega) _) hb (by have := B1.out.size; simp; omega)
       have RA : Hid (Row w2 w1.heap.size 28 (txt t a).cells) := (((Row.made w1 28 (txt t a).cells).alloc _).alloc _).below hb (by simp; omega)
       have RB : Hid (Row w2 (w1.heap.size + 1) 28 (txt t b).cells) := ((row_at1 w1 _ 28 (txt t b).cells).alloc _).below hb (by simp)
       have RC : Hid (Row w2 (w1.heap.size + 1 + 1) 28 (txt t c).cells) := (row_at2 w1 _ _ 28 (txt t c).cells).below hb (by simp)
       have f0 : w2.cell? ⟨g, 0, none⟩ = some (.string ⟨#[99, 111, 117, 110, 116]⟩) := hr.cell 0
       have fl := hr.lt
       clear hb hg hr HC1 B1 HTAB RA RB RC))
  go_returns
  exact ⟨rfl, B2.out.alloc B2.out.size _⟩

set_option maxRecDepth 200000 in
set_option maxHeartbeats 4000000 in
theorem texts_far (t a b c : ByteArray) (w : World) (hab : a.size + b.size ≤ 65536) (hbc : 65536 < b.size + c.size) (hb0 : b.size ≤ 4611686018427387903) (hc0 : c.size ≤ 4611686018427387903) (hG : Glob w) (htab : Lib.TabIs Tryz.prog w "internal/strconv.uint64pow10" .u64 Lib.pow10Tab) :
    Calls Tryz.prog 9 #[.string t, .string a, .string b, .string c] w fun e w' => e = .returned (.bool true) ∧ Below w.heap.size w w' := by
  have h11 := known_any w hG
  have HTAB := Lib.hid (Lib.tabBelow_of_tabIs htab)
  have HC1 := Lib.hid fun W => txt_add t a b W hab
  have h1 : (a.size : Int) + (b.size : Int) ≤ 65536 := by omega
  have HC2 := Lib.hid fun W (hW : Below w.heap.size w W) => txt_count t b c W hbc hb0 hc0 (HTAB.out _ hW)
  have h2 : (65536 : Int) < (b.size : Int) + (c.size : Int) := by omega
  have h3 : (b.size : Int) + (c.size : Int) ≤ 9223372036854775806 := by omega
  clear hab hbc hb0 hc0
  unfold zeroD at HC2
  unfold txt mk Dat.val at HC1 HC2
  clear hG htab
  go_enter Tryz.func9, Tryz.ntmps9
  go_wp2_with (first
    | (go_at_call 11; refine h11.mono ?_; rintro en w1 ⟨rfl, hb⟩; have B1 := Lib.hid hb; clear hb h11)
    | (go_at_call 17; have ord := B1.out.size; refine (HC1.out _).mono ?_; rintro en w2 ⟨rfl, hb⟩
       have B2 : Hid (Below w.heap.size w w2) := below_more (((B1.out.alloc B1.out.size _).alloc (by have := B1.out.size; simp; omega) _).alloc (by have := B1.out.size; simp; omega) _) hb (by have := B1.out.size; simp; omega)
       have RA : Hid (Row w2 w1.heap.size 28 (txt t a).cells) := (((Row.made w1 28 (txt t a).cells).alloc _).alloc _).below hb (by simp; omega)
       have RB : Hid (Row w2 (w1.heap.size + 1) 28 (txt t b).cells) := ((row_at1 w1 _ 28 (txt t b).cells).alloc _).below hb (by simp)
       have RC : Hid (Row w2 (w1.heap.size + 1 + 1) 28 (txt t c).cells) := (row_at2 w1 _ _ 28 (txt t c).cells).below hb (by simp)
       obtain ⟨x0, x1, x2, x3, x4, x5, x6, x7, x8, x9, x10, xf⟩ := row11 RB.out
       have xl := RB.out.lt
       simp only [txt, mk] at x0 x1 x2 x3 x4 x5 x6 x7 x8 x9 x10
       obtain ⟨y0, y1, y2, y3, y4, y5, y6, y7, y8, y9, y10, yf⟩ := row11 RC.out
       have yl := RC.out.lt
       simp only [txt, mk] at y0 y1 y2 y3 y4 y5 y6 y7 y8 y9 y10
       skip
       clear hb HC1 B1 ord)
    | (go_at_call 17; have ord := B2.out.size; refine (HC2.out _ ?hW).mono ?_
       case hW => exact B2.out.alloc B2.out.size _
       rintro en w3 ⟨v, m, rfl, ⟨g, rfl, hg, hr⟩, hb⟩
       have B3 : Hid (Below w.heap.size w w3) := below_more (B2.out.alloc B2.out.size _) hb (by have := B2.out.size; simp; omega)
       have RD : Hid (Row w3 w2.heap.size 28 (txt t (a ++ b)).cells) := (Row.made w2 28 (txt t (a ++ b)).cells).below hb (by simp)
       obtain ⟨z0, z1, z2, z3, z4, z5, z6, z7, z8, z9, z10, zf⟩ := row11 RD.out
       have zl := RD.out.lt
       simp only [txt, mk] at z0 z1 z2 z3 z4 z5 z6 z7 z8 z9 z10
       clear hb HC2 B2 ord RA RB RC RD x0 x1 x2 x3 x4 x5 x6 x7 x8 x9 x10 xf xl y0 y1 y2 y3 y4 y5 y6 y7 y8 y9 y10 yf yl
       skip))
  go_returns
  exact ⟨rfl, B3.out.alloc B3.out.size _⟩

set_option maxRecDepth 200000 in
set_option maxHeartbeats 4000000 in
theorem texts_wide (t a b c : ByteArray) (w : World) (hab : a.size + b.size ≤ 65536) (hbc : b.size + c.size ≤ 65536) (habc : 65536 < a.size + b.size + c.size) (hG : Glob w) (htab : Lib.TabIs Tryz.prog w "internal/strconv.uint64pow10" .u64 Lib.pow10Tab) :
    Calls Tryz.prog 9 #[.string t, .string a, .string b, .string c] w fun e w' => e = .returned (.bool true) ∧ Below w.heap.size w w' := by
  have h11 := known_any w hG
  have HTAB := Lib.hid (Lib.tabBelow_of_tabIs htab)
  have HC1 := Lib.hid fun W => txt_add t a b W hab
  have h1 : (a.size : Int) + (b.size : Int) ≤ 65536 := by omega
  have HC2 := Lib.hid fun W (hW : Below w.heap.size w W) => txt_add t b c W hbc
  have h2 : (b.size : Int) + (c.size : Int) ≤ 65536 := by omega
  have h3 : (65536 : Int) < (a.size : Int) + (b.size : Int) + (c.size : Int) := by omega
  clear hab hbc habc
  unfold txt mk Dat.val at HC1 HC2
  clear hG htab
  go_enter Tryz.func9, Tryz.ntmps9
  go_wp2_with (first
    | (go_at_call 11; refine h11.mono ?_; rintro en w1 ⟨rfl, hb⟩; have B1 := Lib.hid hb; clear hb h11)
    | (go_at_call 17; have ord := B1.out.size; refine (HC1.out _).mono ?_; rintro en w2 ⟨rfl, hb⟩
       have B2 : Hid (Below w.heap.size w w2) := below_more (((B1.out.alloc B1.out.size _).alloc (by have := B1.out.size; simp; omega) _).alloc (by have := B1.out.size; simp; omega) _) hb (by have := B1.out.size; simp; omega)
       have RA : Hid (Row w2 w1.heap.size 28 (txt t a).cells) := (((Row.made w1 28 (txt t a).cells).alloc _).alloc _).below hb (by simp; omega)
       have RB : Hid (Row w2 (w1.heap.size + 1) 28 (txt t b).cells) := ((row_at1 w1 _ 28 (txt t b).cells).alloc _).below hb (by simp)
       have RC : Hid (Row w2 (w1.heap.size + 1 + 1) 28 (txt t c).cells) := (row_at2 w1 _ _ 28 (txt t c).cells).below hb (by simp)
       obtain ⟨x0, x1, x2, x3, x4, x5, x6, x7, x8, x9, x10, xf⟩ := row11 RB.out
       have xl := RB.out.lt
       simp only [txt, mk] at x0 x1 x2 x3 x4 x5 x6 x7 x8 x9 x10
       obtain ⟨y0, y1, y2, y3, y4, y5, y6, y7, y8, y9, y10, yf⟩ := row11 RC.out
       have yl := RC.out.lt
       simp only [txt, mk] at y0 y1 y2 y3 y4 y5 y6 y7 y8 y9 y10
       skip
       clear hb HC1 B1 ord)
    | (go_at_call 17; have ord := B2.out.size; refine (HC2.out _ ?hW).mono ?_
       case hW => exact B2.out.alloc B2.out.size _
       rintro en w3 ⟨rfl, hb⟩
       have B3 : Hid (Below w.heap.size w w3) := below_more (B2.out.alloc B2.out.size _) hb (by have := B2.out.size; simp; omega)
       have RD : Hid (Row w3 w2.heap.size 28 (txt t (a ++ b)).cells) := (Row.made w2 28 (txt t (a ++ b)).cells).below hb (by simp)
       obtain ⟨z0, z1, z2, z3, z4, z5, z6, z7, z8, z9, z10, zf⟩ := row11 RD.out
       have zl := RD.out.lt
       simp only [txt, mk] at z0 z1 z2 z3 z4 z5 z6 z7 z8 z9 z10
       clear hb HC2 B2 ord RA RB RC RD x0 x1 x2 x3 x4 x5 x6 x7 x8 x9 x10 xf xl y0 y1 y2 y3 y4 y5 y6 y7 y8 y9 y10 yf yl
       skip))
  go_returns
  exact ⟨rfl, B3.out.alloc B3.out.size _⟩

set_option maxRecDepth 200000 in
set_option maxHeartbeats 4000000 in
theorem texts_fit (t a b c : ByteArray) (w : World) (hab : a.size + b.size ≤ 65536) (hbc : b.size + c.size ≤ 65536) (habc : a.size + b.size + c.size ≤ 65536) (hG : Glob w) (htab : Lib.TabIs Tryz.prog w "internal/strconv.uint64pow10" .u64 Lib.pow10Tab) :
    Calls Tryz.prog 9 #[.string t, .string a, .string b, .string c] w fun e w' => e = .returned (.bool true) ∧ Below w.heap.size w w' := by
  have h11 := known_any w hG
  have HTAB := Lib.hid (Lib.tabBelow_of_tabIs htab)
  have HC1 := Lib.hid fun W => txt_add t a b W hab
  have h1 : (a.size : Int) + (b.size : Int) ≤ 65536 := by omega
  have hsab : (a ++ b).size = a.size + b.size := ByteArray.size_append
  have hsbc : (b ++ c).size = b.size + c.size := ByteArray.size_append
  have HC2 := Lib.hid fun W => txt_add t b c W hbc
  have HC3 := Lib.hid fun W => txt_add t (a ++ b) c W (by omega)
  have HC4 : Hid (∀ W, Calls Tryz.prog 17 #[.string ⟨#[43]⟩, (txt t a).val, (txt t (b ++ c)).val] W fun e w' => e = .returned (.tuple #[(txt t ((a ++ b) ++ c)).val, .nilIface]) ∧ Below W.heap.size W w') := fun W => by
    have := txt_add t a (b ++ c) W (by omega)
    rwa [← ByteArray.append_assoc] at this
  have HS := Lib.hid fun W => says_le t a b W
  have h2 : (b.size : Int) + (c.size : Int) ≤ 65536 := by omega
  have h3 : (a.size : Int) + (b.size : Int) + (c.size : Int) ≤ 65536 := by omega
  have h4 : ((a ++ b).size : Int) + (c.size : Int) ≤ 65536 := by omega
  clear hab hbc habc hsab hsbc
  unfold txt mk Dat.val at HC1 HC2 HC3 HC4 HS
  clear hG htab
  go_enter Tryz.func9, Tryz.ntmps9
  go_wp2_with (first
    | (go_at_call 11; refine h11.mono ?_; rintro en w1 ⟨rfl, hb⟩; have B1 := Lib.hid hb; clear hb h11)
    | (go_at_call 17; have ord := B1.out.size; refine (HC1.out _).mono ?_; rintro en w2 ⟨rfl, hb⟩
       have B2 : Hid (Below w.heap.size w w2) := below_more (((B1.out.alloc B1.out.size _).alloc (by have := B1.out.size; simp; omega) _).alloc (by have := B1.out.size; simp; omega) _) hb (by have := B1.out.size; simp; omega)
       have RA : Hid (Row w2 w1.heap.size 28 (txt t a).cells) := (((Row.made w1 28 (txt t a).cells).alloc _).alloc _).below hb (by simp; omega)
       have RB : Hid (Row w2 (w1.heap.size + 1) 28 (txt t b).cells) := ((row_at1 w1 _ 28 (txt t b).cells).alloc _).below hb (by simp)
       have RC : Hid (Row w2 (w1.heap.size + 1 + 1) 28 (txt t c).cells) := (row_at2 w1 _ _ 28 (txt t c).cells).below hb (by simp)
       obtain ⟨x0, x1, x2, x3, x4, x5, x6, x7, x8, x9, x10, xf⟩ := row11 RB.out
       have xl := RB.out.lt
       simp only [txt, mk] at x0 x1 x2 x3 x4 x5 x6 x7 x8 x9 x10
       obtain ⟨y0, y1, y2, y3, y4, y5, y6, y7, y8, y9, y10, yf⟩ := row11 RC.out
       have yl := RC.out.lt
       simp only [txt, mk] at y0 y1 y2 y3 y4 y5 y6 y7 y8 y9 y10
       skip
       clear hb HC1 B1 ord)
    | (go_at_call 17; have ord := B2.out.size; refine (HC2.out _).mono ?_
       rintro en w3 ⟨rfl, hb⟩
       have B3 : Hid (Below w.heap.size w w3) := below_more (B2.out.alloc B2.out.size _) hb (by have := B2.out.size; simp; omega)
       have RD : Hid (Row w3 w2.heap.size 28 (txt t (a ++ b)).cells) := (Row.made w2 28 (txt t (a ++ b)).cells).below hb (by simp)
       have RA3 : Hid (Row w3 w1.heap.size 28 (txt t a).cells) := (RA.out.alloc _).below hb (by have := RA.out.lt; simp; omega)
       have RC3 : Hid (Row w3 (w1.heap.size + 1 + 1) 28 (txt t c).cells) := (RC.out.alloc _).below hb (by have := RC.out.lt; simp; omega)
       clear hb HC2 B2 ord RA RB RC x0 x1 x2 x3 x4 x5 x6 x7 x8 x9 x10 xf xl y0 y1 y2 y3 y4 y5 y6 y7 y8 y9 y10 yf yl
       obtain ⟨x0, x1, x2, x3, x4, x5, x6, x7, x8, x9, x10, xf⟩ := row11 RD.out
       have xl := RD.out.lt
       simp only [txt, mk] at x0 x1 x2 x3 x4 x5 x6 x7 x8 x9 x10
       obtain ⟨y0, y1, y2, y3, y4, y5, y6, y7, y8, y9, y10, yf⟩ := row11 RC3.out
       have yl := RC3.out.lt
       simp only [txt, mk] at y0 y1 y2 y3 y4 y5 y6 y7 y8 y9 y10
       skip)
    | (go_at_call 17; have ord := B3.out.size; refine (HC3.out _).mono ?_; rintro en w4 ⟨rfl, hb⟩
       have B4 : Hid (Below w.heap.size w w4) := below_more (B3.out.alloc B3.out.size _) hb (by have := B3.out.size; simp; omega)
       have RA4 : Hid (Row w4 w1.heap.size 28 (txt t a).cells) := (RA3.out.alloc _).below hb (by have := RA3.out.lt; simp; omega)
       have RD4 : Hid (Row w4 w2.heap.size 28 (txt t (a ++ b)).cells) := (RD.out.alloc _).below hb (by have := RD.out.lt; simp; omega)
       have RE4 : Hid (Row w4 w3.heap.size 28 (txt t (b ++ c)).cells) := (Row.made w3 28 (txt t (b ++ c)).cells).below hb (by simp)
       clear hb HC3 B3 ord RA3 RC3 RD x0 x1 x2 x3 x4 x5 x6 x7 x8 x9 x10 xf xl y0 y1 y2 y3 y4 y5 y6 y7 y8 y9 y10 yf yl
       obtain ⟨x0, x1, x2, x3, x4, x5, x6, x7, x8, x9, x10, xf⟩ := row11 RA4.out
       have xl := RA4.out.lt
       simp only [txt, mk] at x0 x1 x2 x3 x4 x5 x6 x7 x8 x9 x10
       obtain ⟨y0, y1, y2, y3, y4, y5, y6, y7, y8, y9, y10, yf⟩ := row11 RE4.out
       have yl := RE4.out.lt
       simp only [txt, mk] at y0 y1 y2 y3 y4 y5 y6 y7 y8 y9 y10
       skip)
    | (go_at_call 17; have ord := B4.out.size; refine (HC4.out _).mono ?_; rintro en w5 ⟨rfl, hb⟩
       have B5 : Hid (Below w.heap.size w w5) := below_more (B4.out.alloc B4.out.size _) hb (by have := B4.out.size; simp; omega)
       have RA5 : Hid (Row w5 w1.heap.size 28 (txt t a).cells) := (RA4.out.alloc _).below hb (by have := RA4.out.lt; simp; omega)
       have RD5 : Hid (Row w5 w2.heap.size 28 (txt t (a ++ b)).cells) := (RD4.out.alloc _).below hb (by have := RD4.out.lt; simp; omega)
       have RF5 : Hid (Row w5 w4.heap.size 28 (txt t ((a ++ b) ++ c)).cells) := (Row.made w4 28 (txt t ((a ++ b) ++ c)).cells).below hb (by simp)
       clear hb HC4 B4 ord RA4 RD4 RE4 x0 x1 x2 x3 x4 x5 x6 x7 x8 x9 x10 xf xl y0 y1 y2 y3 y4 y5 y6 y7 y8 y9 y10 yf yl
       obtain ⟨x0, x1, x2, x3, x4, x5, x6, x7, x8, x9, x10, xf⟩ := row11 RA5.out
       have xl := RA5.out.lt
       simp only [txt, mk] at x0 x1 x2 x3 x4 x5 x6 x7 x8 x9 x10
       obtain ⟨y0, y1, y2, y3, y4, y5, y6, y7, y8, y9, y10, yf⟩ := row11 RD5.out
       have yl := RD5.out.lt
       simp only [txt, mk] at y0 y1 y2 y3 y4 y5 y6 y7 y8 y9 y10
       skip)
    | (go_at_call 31; have ord := B5.out.size; refine (HS.out _).mono ?_; rintro en w6 ⟨rfl, hb⟩
       have B6 : Hid (Below w.heap.size w w6) := below_more (B5.out.alloc B5.out.size _) hb (by have := B5.out.size; simp; omega)
       have RF6 : Hid (Row w6 w4.heap.size 28 (txt t ((a ++ b) ++ c)).cells) := (RF5.out.alloc _).below hb (by have := RF5.out.lt; simp; omega)
       have RG6 : Hid (Row w6 w5.heap.size 28 (txt t ((a ++ b) ++ c)).cells) := (Row.made w5 28 (txt t ((a ++ b) ++ c)).cells).below hb (by simp)
       clear hb HS B5 ord RA5 RD5 RF5 x0 x1 x2 x3 x4 x5 x6 x7 x8 x9 x10 xf xl y0 y1 y2 y3 y4 y5 y6 y7 y8 y9 y10 yf yl
       obtain ⟨x0, x1, x2, x3, x4, x5, x6, x7, x8, x9, x10, xf⟩ := row11 RF6.out
       have xl := RF6.out.lt
       simp only [txt, mk] at x0 x1 x2 x3 x4 x5 x6 x7 x8 x9 x10
       obtain ⟨y0, y1, y2, y3, y4, y5, y6, y7, y8, y9, y10, yf⟩ := row11 RG6.out
       have yl := RG6.out.lt
       simp only [txt, mk] at y0 y1 y2 y3 y4 y5 y6 y7 y8 y9 y10
       clear RF6 RG6))
  go_returns
  exact ⟨rfl, B6.out⟩

theorem numberTexts_any (t a b c : ByteArray) (w : World) (ha : a.size ≤ 4611686018427387903) (hb : b.size ≤ 4611686018427387903) (hc : c.size ≤ 4611686018427387903) (hG : Glob w) (htab : Lib.TabIs Tryz.prog w "internal/strconv.uint64pow10" .u64 Lib.pow10Tab) :
    Calls Tryz.prog 9 #[.string t, .string a, .string b, .string c] w fun e w' => e = .returned (.bool true) ∧ Below w.heap.size w w' := by
  by_cases h1 : a.size + b.size ≤ 65536
  · by_cases h2 : b.size + c.size ≤ 65536
    · by_cases h3 : a.size + b.size + c.size ≤ 65536
      · exact texts_fit t a b c w h1 h2 h3 hG htab
      · exact texts_wide t a b c w h1 h2 (by omega) hG htab
    · exact texts_far t a b c w h1 (by omega) hb hc hG htab
  · exact texts_long t a b c w (by omega) ha hb hG htab
end Go.Proofs.YtehakhplglhkdaaGreatDoor
