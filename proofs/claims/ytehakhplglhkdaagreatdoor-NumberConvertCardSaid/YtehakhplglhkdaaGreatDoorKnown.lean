/- The walk of guiselaw6.known: it returns true. Conditions: what strconv.ParseFloat reads of the package's variables. -/
import Derived.Test.YtehakhplglhkdaaGreatDoorSmall
import Derived.Test.YtehakhplglhkdaaGreatDoorDivz
import Derived.Test.YtehakhplglhkdaaGreatDoorBinA
namespace Go.Proofs.YtehakhplglhkdaaGreatDoor
set_option linter.unusedVariables false
open Go.RowKit

theorem add34 (w : World) : Calls Tryz.prog 17 #[.string ⟨#[43]⟩, (mk 2 ⟨#[105, 110, 116]⟩ 3 0 ⟨#[]⟩).val, (mk 2 ⟨#[105, 110, 116]⟩ 4 0 ⟨#[]⟩).val] w fun e w' => e = .returned (.tuple #[(mk 2 ⟨#[105, 110, 116]⟩ 7 0 ⟨#[]⟩).val, .nilIface]) ∧ Below w.heap.size w w' := by
  have h := bin_add ⟨#[105, 110, 116]⟩ 3 4 w
  rwa [show wrap64 (3 + 4) = 7 by kernel_rfl] at h
theorem neg5 (w : World) : Calls Tryz.prog 12 #[.string ⟨#[45]⟩, (mk 2 ⟨#[105, 110, 116]⟩ 5 0 ⟨#[]⟩).val] w fun e w' => e = .returned (.tuple #[(mk 2 ⟨#[105, 110, 116]⟩ (-5) 0 ⟨#[]⟩).val, .nilIface]) ∧ Below w.heap.size w w' := by
  have h := un_neg ⟨#[105, 110, 116]⟩ 5 w
  rwa [show wrap64 (-5) = -5 by kernel_rfl] at h
theorem name9 (w : World) : Calls Tryz.prog 34 #[(mk 9 ⟨#[84]⟩ 0 0 ⟨#[]⟩).val] w fun e w' => e = .returned (.string ⟨#[42, 84]⟩) ∧ Below w.heap.size w w' :=
  name_any (mk 9 ⟨#[84]⟩ 0 0 ⟨#[]⟩) w (by decide)
theorem told_div (g : Nat) (w : World) (hg : Row w g 35 [.string sDivide, .string ⟨#[]⟩]) :
    Calls Tryz.prog 15 #[.iface 64 (.pointer (some ⟨g, 0, none⟩)), .agg #[.string sDivide, .string ⟨#[]⟩]] w fun e w' => e = .returned (.bool true) ∧ Below w.heap.size w w' := by
  have h := told_fault g sDivide ⟨#[]⟩ sDivide ⟨#[]⟩ w hg (by kernel_rfl)
  rwa [show (sDivide.toList == sDivide.toList && ByteArray.toList ⟨#[]⟩ == ByteArray.toList ⟨#[]⟩) = true by kernel_rfl] at h

set_option maxRecDepth 200000 in
set_option maxHeartbeats 4000000 in
theorem known_any (w : World) (hG : Glob w) : Calls Tryz.prog 11 #[] w fun e w' => e = .returned (.bool true) ∧ Below w.heap.size w w' := by
  have HG := Lib.hid hG
  clear hG
  have hgo1 : True := trivial
  go_enter Tryz.func11, Tryz.ntmps11
  go_wp2_with (first
    | (go_at_call 32; go_in)
    | (go_at_call 17
       clear hgo1
       refine (add34 _).mono ?_
       rintro en w1 ⟨rfl, hb⟩
       have HB1 : Hid (Below w.heap.size w w1) := below_more (((Below.refl _ _).alloc (Nat.le_refl _) _).alloc (by simp) _) hb (by simp; omega)
       clear hb
       unfold Dat.val mk)
    | (go_at_call 17
       have hord := HB1.out.size
       refine (bin_divz ⟨#[105, 110, 116]⟩ 3 _).mono ?_
       rintro en w2 ⟨v2, rfl, ⟨g, rfl, hg, hf⟩, hb⟩
       have HB2 : Hid (Below w.heap.size w w2) := below_more ((((HB1.out).alloc (HB1.out.size) _).alloc (by have := HB1.out.size; simp; omega) _).alloc (by have := HB1.out.size; simp; omega) _) hb (by have := HB1.out.size; simp; omega)
       have R1 : Hid (Row w2 w1.heap.size 28 (mk 2 ⟨#[105, 110, 116]⟩ 7 0 ⟨#[]⟩).cells) := (((Row.made w1 28 (mk 2 ⟨#[105, 110, 116]⟩ 7 0 ⟨#[]⟩).cells).alloc _).alloc _).below hb (by simp; omega)
       have HF := Lib.hid hf
       clear hord hb HB1 hg hf
       unfold zeroD Dat.val mk)
    | (go_at_call 12
       have hord := HB2.out.size
       refine (neg5 _).mono ?_
       rintro en w3 ⟨rfl, hb⟩
       have HB3 : Hid (Below w.heap.size w w3) := below_more (((HB2.out).alloc (HB2.out.size) _).alloc (by have := HB2.out.size; simp; omega) _) hb (by have := HB2.out.size; simp; omega)
       have R1 : Hid (Row w3 w1.heap.size 28 (mk 2 ⟨#[105, 110, 116]⟩ 7 0 ⟨#[]⟩).cells) := (((R1.out).alloc _).alloc _).below hb (by have := R1.out.lt; simp; omega)
       have R2 : Hid (Row w3 w2.heap.size 28 (zeroD).cells) := ((Row.made w2 28 (zeroD).cells).alloc _).below hb (by simp; omega)
       have HF : Hid (Row w3 g 35 [.string sDivide, .string ⟨#[]⟩]) := (((HF.out).alloc _).alloc _).below hb (by have := HF.out.lt; simp; omega)
       clear hord hb HB2
       unfold Dat.val mk)
    | (go_at_call 20
       have hord := HB3.out.size
       refine (conv_int ⟨#[105, 110, 116]⟩ ⟨#[84]⟩ 5 _).mono ?_
       rintro en w4 ⟨rfl, hb⟩
       have HB4 : Hid (Below w.heap.size w w4) := below_more (((HB3.out).alloc (HB3.out.size) _).alloc (by have := HB3.out.size; simp; omega) _) hb (by have := HB3.out.size; simp; omega)
       have R1 : Hid (Row w4 w1.heap.size 28 (mk 2 ⟨#[105, 110, 116]⟩ 7 0 ⟨#[]⟩).cells) := (((R1.out).alloc _).alloc _).below hb (by have := R1.out.lt; simp; omega)
       have R2 : Hid (Row w4 w2.heap.size 28 (zeroD).cells) := (((R2.out).alloc _).alloc _).below hb (by have := R2.out.lt; simp; omega)
       have R3 : Hid (Row w4 w3.heap.size 28 (mk 2 ⟨#[105, 110, 116]⟩ (-5) 0 ⟨#[]⟩).cells) := ((Row.made w3 28 (mk 2 ⟨#[105, 110, 116]⟩ (-5) 0 ⟨#[]⟩).cells).alloc _).below hb (by simp; omega)
       have HF : Hid (Row w4 g 35 [.string sDivide, .string ⟨#[]⟩]) := (((HF.out).alloc _).alloc _).below hb (by have := HF.out.lt; simp; omega)
       clear hord hb HB3
       unfold Dat.val mk)
    | (go_at_call 24
       have hord := HB4.out.size
       refine (numInt120 _).mono ?_
       rintro en w5 ⟨rfl, hb⟩
       have HB5 : Hid (Below w.heap.size w w5) := below_more ((HB4.out).alloc (HB4.out.size) _) hb (by have := HB4.out.size; simp; omega)
       have R1 : Hid (Row w5 w1.heap.size 28 (mk 2 ⟨#[105, 110, 116]⟩ 7 0 ⟨#[]⟩).cells) := ((R1.out).alloc _).below hb (by have := R1.out.lt; simp; omega)
       have R2 : Hid (Row w5 w2.heap.size 28 (zeroD).cells) := ((R2.out).alloc _).below hb (by have := R2.out.lt; simp; omega)
       have R3 : Hid (Row w5 w3.heap.size 28 (mk 2 ⟨#[105, 110, 116]⟩ (-5) 0 ⟨#[]⟩).cells) := ((R3.out).alloc _).below hb (by have := R3.out.lt; simp; omega)
       have R4 : Hid (Row w5 w4.heap.size 28 (mk 2 ⟨#[84]⟩ 5 0 ⟨#[]⟩).cells) := (Row.made w4 28 (mk 2 ⟨#[84]⟩ 5 0 ⟨#[]⟩).cells).below hb (by simp)
       have HF : Hid (Row w5 g 35 [.string sDivide, .string ⟨#[]⟩]) := ((HF.out).alloc _).below hb (by have := HF.out.lt; simp; omega)
       clear hord hb HB4
       unfold Dat.val mk)
    | (go_at_call 26
       have hord := HB5.out.size
       refine (numFloat15 _ ?hg).mono ?_
       case hg => exact HG.out.below ((HB5.out).alloc (HB5.out.size) _)
       rintro en w6 ⟨rfl, hb⟩
       have HB6 : Hid (Below w.heap.size w w6) := below_more ((HB5.out).alloc (HB5.out.size) _) hb (by have := HB5.out.size; simp; omega)
       have R1 : Hid (Row w6 w1.heap.size 28 (mk 2 ⟨#[105, 110, 116]⟩ 7 0 ⟨#[]⟩).cells) := ((R1.out).alloc _).below hb (by have := R1.out.lt; simp; omega)
       have R2 : Hid (Row w6 w2.heap.size 28 (zeroD).cells) := ((R2.out).alloc _).below hb (by have := R2.out.lt; simp; omega)
       have R3 : Hid (Row w6 w3.heap.size 28 (mk 2 ⟨#[105, 110, 116]⟩ (-5) 0 ⟨#[]⟩).cells) := ((R3.out).alloc _).below hb (by have := R3.out.lt; simp; omega)
       have R4 : Hid (Row w6 w4.heap.size 28 (mk 2 ⟨#[84]⟩ 5 0 ⟨#[]⟩).cells) := ((R4.out).alloc _).below hb (by have := R4.out.lt; simp; omega)
       have R5 : Hid (Row w6 w5.heap.size 28 (mk 2 ⟨#[105, 110, 116]⟩ 120 0 ⟨#[]⟩).cells) := (Row.made w5 28 (mk 2 ⟨#[105, 110, 116]⟩ 120 0 ⟨#[]⟩).cells).below hb (by simp)
       have HF : Hid (Row w6 g 35 [.string sDivide, .string ⟨#[]⟩]) := ((HF.out).alloc _).below hb (by have := HF.out.lt; simp; omega)
       clear hord hb HB5
       obtain ⟨d0, d1, d2, d3, d4, d5, d6, d7, d8, d9, d10, df⟩ := row11 R4.out
       have dlt := R4.out.lt
       simp only [mk] at d0 d1 d2 d3 d4 d5 d6 d7 d8 d9 d10
       unfold Dat.val mk)
    | (go_at_call 33
       have hord := HB6.out.size
       refine (show5 _).mono ?_
       rintro en w7 ⟨rfl, hb⟩
       have HB7 : Hid (Below w.heap.size w w7) := below_more ((HB6.out).alloc (HB6.out.size) _) hb (by have := HB6.out.size; simp; omega)
       have R1 : Hid (Row w7 w1.heap.size 28 (mk 2 ⟨#[105, 110, 116]⟩ 7 0 ⟨#[]⟩).cells) := ((R1.out).alloc _).below hb (by have := R1.out.lt; simp; omega)
       have R2 : Hid (Row w7 w2.heap.size 28 (zeroD).cells) := ((R2.out).alloc _).below hb (by have := R2.out.lt; simp; omega)
       have R3 : Hid (Row w7 w3.heap.size 28 (mk 2 ⟨#[105, 110, 116]⟩ (-5) 0 ⟨#[]⟩).cells) := ((R3.out).alloc _).below hb (by have := R3.out.lt; simp; omega)
       have R4 : Hid (Row w7 w4.heap.size 28 (mk 2 ⟨#[84]⟩ 5 0 ⟨#[]⟩).cells) := ((R4.out).alloc _).below hb (by have := R4.out.lt; simp; omega)
       have R5 : Hid (Row w7 w5.heap.size 28 (mk 2 ⟨#[105, 110, 116]⟩ 120 0 ⟨#[]⟩).cells) := ((R5.out).alloc _).below hb (by have := R5.out.lt; simp; omega)
       have R6 : Hid (Row w7 w6.heap.size 28 (mk 3 ⟨#[102, 108, 111, 97, 116]⟩ 0 4609434218613702656 ⟨#[]⟩).cells) := (Row.made w6 28 (mk 3 ⟨#[102, 108, 111, 97, 116]⟩ 0 4609434218613702656 ⟨#[]⟩).cells).below hb (by simp)
       have HF : Hid (Row w7 g 35 [.string sDivide, .string ⟨#[]⟩]) := ((HF.out).alloc _).below hb (by have := HF.out.lt; simp; omega)
       clear hord hb HB6
       clear d0 d1 d2 d3 d4 d5 d6 d7 d8 d9 d10 df dlt
       skip)
    | (go_at_call 34
       have hord := HB7.out.size
       refine (name9 _).mono ?_
       rintro en w8 ⟨rfl, hb⟩
       have HB8 : Hid (Below w.heap.size w w8) := below_more (HB7.out) hb (HB7.out.size)
       have R1 : Hid (Row w8 w1.heap.size 28 (mk 2 ⟨#[105, 110, 116]⟩ 7 0 ⟨#[]⟩).cells) := (R1.out).below hb (R1.out.lt)
       have R2 : Hid (Row w8 w2.heap.size 28 (zeroD).cells) := (R2.out).below hb (R2.out.lt)
       have R3 : Hid (Row w8 w3.heap.size 28 (mk 2 ⟨#[105, 110, 116]⟩ (-5) 0 ⟨#[]⟩).cells) := (R3.out).below hb (R3.out.lt)
       have R4 : Hid (Row w8 w4.heap.size 28 (mk 2 ⟨#[84]⟩ 5 0 ⟨#[]⟩).cells) := (R4.out).below hb (R4.out.lt)
       have R5 : Hid (Row w8 w5.heap.size 28 (mk 2 ⟨#[105, 110, 116]⟩ 120 0 ⟨#[]⟩).cells) := (R5.out).below hb (R5.out.lt)
       have R6 : Hid (Row w8 w6.heap.size 28 (mk 3 ⟨#[102, 108, 111, 97, 116]⟩ 0 4609434218613702656 ⟨#[]⟩).cells) := (R6.out).below hb (R6.out.lt)
       have HF : Hid (Row w8 g 35 [.string sDivide, .string ⟨#[]⟩]) := (HF.out).below hb (HF.out.lt)
       clear hord hb HB7
       skip)
    | (go_at_call 15
       have hord := HB8.out.size
       refine (told_div g _ ?hg).mono ?_
       case hg => exact (HF.out)
       rintro en w9 ⟨rfl, hb⟩
       have HB9 : Hid (Below w.heap.size w w9) := below_more (HB8.out) hb (HB8.out.size)
       have R1 : Hid (Row w9 w1.heap.size 28 (mk 2 ⟨#[105, 110, 116]⟩ 7 0 ⟨#[]⟩).cells) := (R1.out).below hb (R1.out.lt)
       have R2 : Hid (Row w9 w2.heap.size 28 (zeroD).cells) := (R2.out).below hb (R2.out.lt)
       have R3 : Hid (Row w9 w3.heap.size 28 (mk 2 ⟨#[105, 110, 116]⟩ (-5) 0 ⟨#[]⟩).cells) := (R3.out).below hb (R3.out.lt)
       have R4 : Hid (Row w9 w4.heap.size 28 (mk 2 ⟨#[84]⟩ 5 0 ⟨#[]⟩).cells) := (R4.out).below hb (R4.out.lt)
       have R5 : Hid (Row w9 w5.heap.size 28 (mk 2 ⟨#[105, 110, 116]⟩ 120 0 ⟨#[]⟩).cells) := (R5.out).below hb (R5.out.lt)
       have R6 : Hid (Row w9 w6.heap.size 28 (mk 3 ⟨#[102, 108, 111, 97, 116]⟩ 0 4609434218613702656 ⟨#[]⟩).cells) := (R6.out).below hb (R6.out.lt)
       have HF : Hid (Row w9 g 35 [.string sDivide, .string ⟨#[]⟩]) := (HF.out).below hb (HF.out.lt)
       clear hord hb HB8
       have e1 := R1.out.cell 2
       have e3 := R3.out.cell 2
       have e5 := R5.out.cell 2
       have e6 := R6.out.cell 3
       simp only [mk, Dat.cells, List.getElem?_cons_zero, List.getElem?_cons_succ] at e1 e3 e5 e6
       skip))
  go_returns
  exact ⟨rfl, HB9.out⟩
end Go.Proofs.YtehakhplglhkdaaGreatDoor
