/- code.fine: is an instruction fine by itself? -/
import Derived.Test.YtmecmlpoallpcaaGreatDoorM16
set_option linter.unusedSimpArgs false
namespace Go.Proofs.YtmecmlpoallpcaaGreatDoor
set_option linter.unusedVariables false
open Go.RowKit Go.Proofs.PeepPlain

def leftB (x : Ins) : Bool := decide (x.op = 26) && (decide (x.b = 1) || (decide (x.a = 2) && (decide (x.b = 2) || decide (x.b = 3))))
/-- Does an instruction go back to one that is neither a step nor a tick? -/
def backB (l : List Ins) (k : Nat) (x : Ins) : Bool := decide (jumps x.op) && decide (x.a ≤ k) && decide (PeepPlain.opAt l x.a.toNat ≠ 1) && decide (PeepPlain.opAt l x.a.toNat ≠ 2)
def lastB (l : List Ins) (k : Nat) (x : Ins) : Bool := decide ((k : Int) < l.length - 1) || decide (x.op = 50) || decide (x.op = 34)
def fineB (fs : List Fn) (gl : Nat) (f k : Nat) : Bool :=
  let o := fs.getD f default
  let x := o.code.getD k default
  !(formOf x.op).word.toList.isEmpty && decide (0 ≤ x.pos) && decide (x.pos ≤ 60000) && numberedB fs gl f x && saysB x && (decide (x.b = 0) || leftB x) && !backB o.code k x && lastB o.code k x

theorem fine_prep {w w2 : World} (p0 p1 v0 v1 v2 v3 v4 : Value) (hb : Below ((w.alloc (.cells #[p0, p1] 25)).alloc (.cells #[v0, v1, v2, v3, v4] 50)).heap.size ((w.alloc (.cells #[p0, p1] 25)).alloc (.cells #[v0, v1, v2, v3, v4] 50)) w2) :
    Below w.heap.size w w2 ∧ Row w2 w.heap.size 25 [p0, p1] ∧ Row w2 (w.heap.size + 1) 50 [v0, v1, v2, v3, v4] := by
  have e1 : (w.alloc (.cells #[p0, p1] 25)).heap.size = w.heap.size + 1 := by show (w.heap.push _).size = _; rw [Array.size_push]
  have e2 : ((w.alloc (.cells #[p0, p1] 25)).alloc (.cells #[v0, v1, v2, v3, v4] 50)).heap.size = w.heap.size + 1 + 1 := by show ((w.alloc (.cells #[p0, p1] 25)).heap.push _).size = _; rw [Array.size_push, e1]
  have r1 : Row (w.alloc (.cells #[p0, p1] 25)) w.heap.size 25 [p0, p1] := Row.made w 25 [p0, p1]
  have r2 : Row ((w.alloc (.cells #[p0, p1] 25)).alloc (.cells #[v0, v1, v2, v3, v4] 50)) (w.heap.size + 1) 50 [v0, v1, v2, v3, v4] := e1 ▸ Row.made (w.alloc (.cells #[p0, p1] 25)) 50 [v0, v1, v2, v3, v4]
  have r1' := r1.alloc (.cells #[v0, v1, v2, v3, v4] 50)
  exact ⟨below_more ((below1 w _).alloc (by rw [e1]; omega) _) hb (by rw [e2]; omega), r1'.below hb r1'.lt, r2.below hb r2.lt⟩

theorem Row.next {w w3 : World} {X : Obj} {g : Nat} {t : TypeId} {cs : List Value} (h : Row w g t cs) (hb : Below (w.alloc X).heap.size (w.alloc X) w3) : Row w3 g t cs := (h.alloc X).below hb (h.alloc X).lt
theorem below_next {B : Nat} {w w2 w3 : World} {X : Obj} (h : Below B w w2) (hB : B ≤ w2.heap.size) (hb : Below (w2.alloc X).heap.size (w2.alloc X) w3) : Below B w w3 := below_more (h.alloc hB X) hb (by show B ≤ (w2.heap.push X).size; rw [Array.size_push]; omega)

set_option maxRecDepth 20000 in
set_option maxHeartbeats 8000000 in
theorem fine_good (fs : List Fn) (A GA : Option Addr) (fc gl gc f k : Nat) (w : World) (o : Fn) (x : Ins) (hF : FnsAt w A fs) (G : GlobP w) (hf : f < fs.length) (ho : fs[f] = o) (hlen : fs.length ≤ 100000) (hk : k < o.code.length) (hx : o.code[k] = x) (hcl : o.code.length ≤ 200000) (hs : x.text.size ≤ 2000000)
    (h1 : (formOf x.op).word.toList.isEmpty = false) (h2 : 0 ≤ x.pos) (h3 : x.pos ≤ 60000) (h4 : numberedB fs gl f x = true) (h5 : saysB x = true) (hja : jumps x.op → 0 ≤ x.a ∧ x.a < o.code.length) (V : Bool) (hV : ((decide (x.b = 0) || leftB x) && !backB o.code k x && lastB o.code k x) = V) :
    Calls Tryz.prog 40 #[.agg #[.slice A fs.length fc, .slice GA gl gc], .int .i64 f, .int .i64 k] w fun e w' => e = .returned (.bool V) ∧ Below w.heap.size w w' := by
  obtain ⟨F, hF1⟩ : ∃ F, formOf x.op = F := ⟨_, rfl⟩
  have hfm := forms_as x.op F hF1
  rw [hF1] at h1
  have HFS := Lib.hid hF
  have HI := Lib.hid (show InsAt w o.CA o.code from hF.code o (ho ▸ List.getElem_mem hf))
  obtain ⟨b, off, rfl, hb, hcs⟩ := hF.at_ (by omega)
  obtain ⟨g0, g1, g2, g3, g4, g5⟩ := hcs f hf
  rw [ho] at g0 g1 g2 g3 g4 g5
  obtain ⟨bc, oc, hCA, hbc, hic⟩ := HI.out.at_ (by omega)
  rw [hCA] at g5
  obtain ⟨i0, i1, i2, i3, i4⟩ := hic k hk
  rw [hx] at i0 i1 i2 i3 i4
  have HIC := Lib.hid hic
  have HG := Lib.hid G
  have HS := Lib.hid hs
  have HV0 := Lib.hid hV
  have HJA := Lib.hid hja
  clear hV hja
  have HN := Lib.hid h4
  have HY := Lib.hid h5
  have n2 : ¬ x.pos < 0 := by omega
  have n3 : ¬ 60000 < x.pos := by omega
  clear hF hcs hic G hs h2 h3 h4 h5 hx HI g0 g1 g2 g3 g4 hF1
  go_enter Tryz.func40, Tryz.ntmps40
  go_wp2_with (first
    | (go_at_call 70; refine (hfm _).mono ?_; rintro en w2 ⟨rfl, hb2⟩; go_must (obtain ⟨hbw, r1, r2⟩ := fine_prep _ _ _ _ _ _ _ hb2); have hz := r2.lt; have hz0 := r1.lt; have c0 := r1.cell 0; have c1 := r1.cell 1; have d0 := r2.cell 0; have d1 := r2.cell 1; have d2 := r2.cell 2; have d3 := r2.cell 3; have d4 := r2.cell 4; have HBW := Lib.hid hbw; have R1 := Lib.hid r1; have R2 := Lib.hid r2; clear hb2 hbw r1 r2)
    | (go_at_call 71; go_must (refine (numbered_walk fs _ GA fc gl gc f x _ (HFS.out.below (HBW.out.alloc (by omega) _)) hf hlen).mono ?_); rw [HN.out]; rintro en w3 ⟨rfl, hb3⟩; have r2 := R2.out.next hb3; have r1 := R1.out.next hb3; have hz3 := r2.lt; have hz03 := r1.lt; have e0 := r2.cell 0; have e1 := r2.cell 1; have e2 := r2.cell 2; have e3 := r2.cell 3; have e4 := r2.cell 4; have B3 := Lib.hid (below_next HBW.out (by omega) hb3); have R3 := Lib.hid r2; clear c0 c1 d0 d1 d2 d3 d4 hb3 r1 r2)
    | (go_at_call 72; go_must (refine (says_walk x _ HS.out (HG.out.below B3.out)).mono ?_)))
  rw [HY.out]
  rintro en w4 ⟨rfl, hb4⟩
  have r2 := R3.out.below hb4 R3.out.lt
  have d0 := r2.cell 0
  have d1 := r2.cell 1
  have d2 := r2.cell 2
  have hz4 := r2.lt
  have B4 := Lib.hid (below_more B3.out hb4 B3.out.size)
  have R4 := Lib.hid r2
  clear e0 e1 e2 e3 e4 hb4 r2 HY HN hz3 hz03 hz hz0 R1 R2 R3 B3 HBW i0 i1 i2 i3 i4 g5 h1
  have hV := HV0.out
  clear HV0
  by_cases hop : x.op = 26
  · have HJ := Lib.hid (show decide (jumps (26 : Int)) = false from rfl)
    have hback : backB o.code k x = false := by unfold backB; rw [show decide (jumps x.op) = false from by rw [hop]; rfl]; rfl
    have hlast : lastB o.code k x = decide ((k : Int) < o.code.length - 1) := by unfold lastB; rw [hop]; simp
    rw [hback, hlast, Bool.not_false, Bool.and_true] at hV
    clear hback hlast
    by_cases hb1 : x.b = 1
    · have hl : (decide (x.b = 0) || leftB x) = true := by unfold leftB; rw [hop, hb1]; simp
      rw [hl] at hV
      clear hl
      rw [Bool.true_and] at hV
      by_cases hkl : (k : Int) < o.code.length - 1
      · rw [decide_eq_true hkl] at hV
        have HV := Lib.hid hV
        clear hV
        go_wp2_with (first
          | (go_at_call 73; go_must (refine (goes_walk _ _).mono ?_); rw [HJ.out]; rintro en w5 ⟨rfl, hb5⟩; have r5 := R4.out.below hb5 R4.out.lt; have e0 := r5.cell 0; have e1 := r5.cell 1; have B5 := Lib.hid (below_more B4.out hb5 B4.out.size); clear hb5 r5 d0 d1 d2))
        all_goals (go_ret; exact ⟨ret_bool (by first | exact HV.out.symm | (rw [← HV.out]; simp [hkl]; done) | (rw [← HV.out]; simp [hkl, h50, h34]; done) | (rw [← HV.out, Bool.eq_iff_iff]; simp; omega)), B5.out⟩)
      · rw [decide_eq_false hkl] at hV
        have HV := Lib.hid hV
        clear hV
        go_wp2_with (first
          | (go_at_call 73; go_must (refine (goes_walk _ _).mono ?_); rw [HJ.out]; rintro en w5 ⟨rfl, hb5⟩; have r5 := R4.out.below hb5 R4.out.lt; have e0 := r5.cell 0; have e1 := r5.cell 1; have B5 := Lib.hid (below_more B4.out hb5 B4.out.size); clear hb5 r5 d0 d1 d2))
        all_goals (go_ret; exact ⟨ret_bool (by first | exact HV.out.symm | (rw [← HV.out]; simp [hkl]; done) | (rw [← HV.out]; simp [hkl, h50, h34]; done) | (rw [← HV.out, Bool.eq_iff_iff]; simp; omega)), B5.out⟩)
    · by_cases ha2 : x.a = 2
      · by_cases hb2 : x.b = 2
        · have hl : (decide (x.b = 0) || leftB x) = true := by unfold leftB; rw [hop, hb2, ha2]; simp
          rw [hl] at hV
          clear hl
          rw [Bool.true_and] at hV
          by_cases hkl : (k : Int) < o.code.length - 1
          · rw [decide_eq_true hkl] at hV
            have HV := Lib.hid hV
            clear hV
            go_wp2_with (first
              | (go_at_call 73; go_must (refine (goes_walk _ _).mono ?_); rw [HJ.out]; rintro en w5 ⟨rfl, hb5⟩; have r5 := R4.out.below hb5 R4.out.lt; have e0 := r5.cell 0; have e1 := r5.cell 1; have B5 := Lib.hid (below_more B4.out hb5 B4.out.size); clear hb5 r5 d0 d1 d2))
            all_goals (go_ret; exact ⟨ret_bool (by first | exact HV.out.symm | (rw [← HV.out]; simp [hkl]; done) | (rw [← HV.out]; simp [hkl, h50, h34]; done) | (rw [← HV.out, Bool.eq_iff_iff]; simp; omega)), B5.out⟩)
          · rw [decide_eq_false hkl] at hV
            have HV := Lib.hid hV
            clear hV
            go_wp2_with (first
              | (go_at_call 73; go_must (refine (goes_walk _ _).mono ?_); rw [HJ.out]; rintro en w5 ⟨rfl, hb5⟩; have r5 := R4.out.below hb5 R4.out.lt; have e0 := r5.cell 0; have e1 := r5.cell 1; have B5 := Lib.hid (below_more B4.out hb5 B4.out.size); clear hb5 r5 d0 d1 d2))
            all_goals (go_ret; exact ⟨ret_bool (by first | exact HV.out.symm | (rw [← HV.out]; simp [hkl]; done) | (rw [← HV.out]; simp [hkl, h50, h34]; done) | (rw [← HV.out, Bool.eq_iff_iff]; simp; omega)), B5.out⟩)
        · by_cases hb3 : x.b = 3
          · have hl : (decide (x.b = 0) || leftB x) = true := by unfold leftB; rw [hop, hb3, ha2]; simp
            rw [hl] at hV
            clear hl
            rw [Bool.true_and] at hV
            by_cases hkl : (k : Int) < o.code.length - 1
            · rw [decide_eq_true hkl] at hV
              have HV := Lib.hid hV
              clear hV
              go_wp2_with (first
                | (go_at_call 73; go_must (refine (goes_walk _ _).mono ?_); rw [HJ.out]; rintro en w5 ⟨rfl, hb5⟩; have r5 := R4.out.below hb5 R4.out.lt; have e0 := r5.cell 0; have e1 := r5.cell 1; have B5 := Lib.hid (below_more B4.out hb5 B4.out.size); clear hb5 r5 d0 d1 d2))
              all_goals (go_ret; exact ⟨ret_bool (by first | exact HV.out.symm | (rw [← HV.out]; simp [hkl]; done) | (rw [← HV.out]; simp [hkl, h50, h34]; done) | (rw [← HV.out, Bool.eq_iff_iff]; simp; omega)), B5.out⟩)
            · rw [decide_eq_false hkl] at hV
              have HV := Lib.hid hV
              clear hV
              go_wp2_with (first
                | (go_at_call 73; go_must (refine (goes_walk _ _).mono ?_); rw [HJ.out]; rintro en w5 ⟨rfl, hb5⟩; have r5 := R4.out.below hb5 R4.out.lt; have e0 := r5.cell 0; have e1 := r5.cell 1; have B5 := Lib.hid (below_more B4.out hb5 B4.out.size); clear hb5 r5 d0 d1 d2))
              all_goals (go_ret; exact ⟨ret_bool (by first | exact HV.out.symm | (rw [← HV.out]; simp [hkl]; done) | (rw [← HV.out]; simp [hkl, h50, h34]; done) | (rw [← HV.out, Bool.eq_iff_iff]; simp; omega)), B5.out⟩)
          · by_cases hb0 : x.b = 0
            · have hl : (decide (x.b = 0) || leftB x) = true := by unfold leftB; rw [hb0]; simp
              rw [hl] at hV
              clear hl
              rw [Bool.true_and] at hV
              by_cases hkl : (k : Int) < o.code.length - 1
              · rw [decide_eq_true hkl] at hV
                have HV := Lib.hid hV
                clear hV
                go_wp2_with (first
                  | (go_at_call 73; go_must (refine (goes_walk _ _).mono ?_); rw [HJ.out]; rintro en w5 ⟨rfl, hb5⟩; have r5 := R4.out.below hb5 R4.out.lt; have e0 := r5.cell 0; have e1 := r5.cell 1; have B5 := Lib.hid (below_more B4.out hb5 B4.out.size); clear hb5 r5 d0 d1 d2))
                all_goals (go_ret; exact ⟨ret_bool (by first | exact HV.out.symm | (rw [← HV.out]; simp [hkl]; done) | (rw [← HV.out]; simp [hkl, h50, h34]; done) | (rw [← HV.out, Bool.eq_iff_iff]; simp; omega)), B5.out⟩)
              · rw [decide_eq_false hkl] at hV
                have HV := Lib.hid hV
                clear hV
                go_wp2_with (first
                  | (go_at_call 73; go_must (refine (goes_walk _ _).mono ?_); rw [HJ.out]; rintro en w5 ⟨rfl, hb5⟩; have r5 := R4.out.below hb5 R4.out.lt; have e0 := r5.cell 0; have e1 := r5.cell 1; have B5 := Lib.hid (below_more B4.out hb5 B4.out.size); clear hb5 r5 d0 d1 d2))
                all_goals (go_ret; exact ⟨ret_bool (by first | exact HV.out.symm | (rw [← HV.out]; simp [hkl]; done) | (rw [← HV.out]; simp [hkl, h50, h34]; done) | (rw [← HV.out, Bool.eq_iff_iff]; simp; omega)), B5.out⟩)
            · have q1 : (x.b == 1) = false := beq_eq_false_iff_ne.2 hb1
              have q2 : (x.b == 2) = false := beq_eq_false_iff_ne.2 hb2
              have q3 : (x.b == 3) = false := beq_eq_false_iff_ne.2 hb3
              have q0 : (x.b != 0) = true := bne_iff_ne.2 hb0
              have hl : (decide (x.b = 0) || leftB x) = false := by unfold leftB; simp [hb0, hb1, hb2, hb3]
              rw [hl] at hV
              clear hl
              rw [Bool.false_and] at hV
              have HV := Lib.hid hV
              clear hV
              go_wp2_with (first
                | (go_at_call 73; go_must (refine (goes_walk _ _).mono ?_); rw [HJ.out]; rintro en w5 ⟨rfl, hb5⟩; have r5 := R4.out.below hb5 R4.out.lt; have e0 := r5.cell 0; have e1 := r5.cell 1; have B5 := Lib.hid (below_more B4.out hb5 B4.out.size); clear hb5 r5 d0 d1 d2))
              all_goals (go_ret; exact ⟨ret_bool (by first | exact HV.out.symm | (rw [← HV.out]; simp [hkl]; done) | (rw [← HV.out]; simp [hkl, h50, h34]; done) | (rw [← HV.out, Bool.eq_iff_iff]; simp; omega)), B4.out⟩)
      · by_cases hb0 : x.b = 0
        · have hl : (decide (x.b = 0) || leftB x) = true := by unfold leftB; rw [hb0]; simp
          rw [hl] at hV
          clear hl
          rw [Bool.true_and] at hV
          by_cases hkl : (k : Int) < o.code.length - 1
          · rw [decide_eq_true hkl] at hV
            have HV := Lib.hid hV
            clear hV
            go_wp2_with (first
              | (go_at_call 73; go_must (refine (goes_walk _ _).mono ?_); rw [HJ.out]; rintro en w5 ⟨rfl, hb5⟩; have r5 := R4.out.below hb5 R4.out.lt; have e0 := r5.cell 0; have e1 := r5.cell 1; have B5 := Lib.hid (below_more B4.out hb5 B4.out.size); clear hb5 r5 d0 d1 d2))
            all_goals (go_ret; exact ⟨ret_bool (by first | exact HV.out.symm | (rw [← HV.out]; simp [hkl]; done) | (rw [← HV.out]; simp [hkl, h50, h34]; done) | (rw [← HV.out, Bool.eq_iff_iff]; simp; omega)), B5.out⟩)
          · rw [decide_eq_false hkl] at hV
            have HV := Lib.hid hV
            clear hV
            go_wp2_with (first
              | (go_at_call 73; go_must (refine (goes_walk _ _).mono ?_); rw [HJ.out]; rintro en w5 ⟨rfl, hb5⟩; have r5 := R4.out.below hb5 R4.out.lt; have e0 := r5.cell 0; have e1 := r5.cell 1; have B5 := Lib.hid (below_more B4.out hb5 B4.out.size); clear hb5 r5 d0 d1 d2))
            all_goals (go_ret; exact ⟨ret_bool (by first | exact HV.out.symm | (rw [← HV.out]; simp [hkl]; done) | (rw [← HV.out]; simp [hkl, h50, h34]; done) | (rw [← HV.out, Bool.eq_iff_iff]; simp; omega)), B5.out⟩)
        · have q1 : (x.b == 1) = false := beq_eq_false_iff_ne.2 hb1
          have q0 : (x.b != 0) = true := bne_iff_ne.2 hb0
          have hl : (decide (x.b = 0) || leftB x) = false := by unfold leftB; simp [hb0, hb1, ha2]
          rw [hl] at hV
          clear hl
          rw [Bool.false_and] at hV
          have HV := Lib.hid hV
          clear hV
          go_wp2_with (first
            | (go_at_call 73; go_must (refine (goes_walk _ _).mono ?_); rw [HJ.out]; rintro en w5 ⟨rfl, hb5⟩; have r5 := R4.out.below hb5 R4.out.lt; have e0 := r5.cell 0; have e1 := r5.cell 1; have B5 := Lib.hid (below_more B4.out hb5 B4.out.size); clear hb5 r5 d0 d1 d2))
          all_goals (go_ret; exact ⟨ret_bool (by first | exact HV.out.symm | (rw [← HV.out]; simp [hkl]; done) | (rw [← HV.out]; simp [hkl, h50, h34]; done) | (rw [← HV.out, Bool.eq_iff_iff]; simp; omega)), B4.out⟩)
  · have hl : (decide (x.b = 0) || leftB x) = decide (x.b = 0) := by unfold leftB; simp [hop]
    rw [hl] at hV
    clear hl
    by_cases hb0 : x.b = 0
    · rw [decide_eq_true hb0, Bool.true_and] at hV
      by_cases hj : jumps x.op
      · have HJ := Lib.hid (decide_eq_true hj)
        obtain ⟨ha0, hal⟩ := HJA.out hj
        obtain ⟨ja, hja⟩ : ∃ n : Nat, x.a = (n : Int) := ⟨x.a.toNat, by omega⟩
        have hjl : ja < o.code.length := by omega
        have hjl2 : (ja : Int) < (o.code.length : Int) := by omega
        have i9 := (HIC.out ja hjl).1
        have hoq : PeepPlain.opAt o.code x.a.toNat = o.code[ja].op := by rw [hja, Int.toNat_natCast]; unfold PeepPlain.opAt; rw [List.getD_eq_getElem?_getD, List.getElem?_eq_getElem hjl]; rfl
        unfold backB at hV
        rw [decide_eq_true hj, hoq, Bool.true_and, hja] at hV
        generalize o.code[ja].op = q at i9 hV hoq
        clear hoq hj ha0 hal
        by_cases hle : (ja : Int) ≤ (k : Int)
        · rw [decide_eq_true hle, Bool.true_and] at hV
          by_cases hq1 : q = 1
          · rw [hq1, show decide ((1 : Int) ≠ 1) = false from rfl, Bool.false_and, Bool.not_false, Bool.true_and] at hV
            unfold lastB at hV
            have hq : (q != 1) = false := by rw [hq1]; rfl
            by_cases hkl : (k : Int) < o.code.length - 1
            · rw [decide_eq_true hkl] at hV
              have HV := Lib.hid hV
              clear hV
              go_wp2_with (first
                | (go_at_call 73; go_must (refine (goes_walk _ _).mono ?_); rw [HJ.out]; rintro en w5 ⟨rfl, hb5⟩; have r5 := R4.out.below hb5 R4.out.lt; have e0 := r5.cell 0; have e1 := r5.cell 1; have c9 := (hb5.cell (p := ⟨bc, oc + ja * 5, none⟩) (Nat.lt_of_lt_of_le hbc B4.out.size)).trans ((B4.out.cell (p := ⟨bc, oc + ja * 5, none⟩) hbc).trans i9); have B5 := Lib.hid (below_more B4.out hb5 B4.out.size); clear hb5 r5 d0 d1 d2))
              all_goals (go_ret; exact ⟨ret_bool (by first | exact HV.out.symm | (rw [← HV.out]; simp [hkl]; done) | (rw [← HV.out]; simp [hkl, h50, h34]; done) | (rw [← HV.out, Bool.eq_iff_iff]; simp; omega)), B5.out⟩)
            · rw [decide_eq_false hkl] at hV
              have HV := Lib.hid hV
              clear hV
              go_wp2_with (first
                | (go_at_call 73; go_must (refine (goes_walk _ _).mono ?_); rw [HJ.out]; rintro en w5 ⟨rfl, hb5⟩; have r5 := R4.out.below hb5 R4.out.lt; have e0 := r5.cell 0; have e1 := r5.cell 1; have c9 := (hb5.cell (p := ⟨bc, oc + ja * 5, none⟩) (Nat.lt_of_lt_of_le hbc B4.out.size)).trans ((B4.out.cell (p := ⟨bc, oc + ja * 5, none⟩) hbc).trans i9); have B5 := Lib.hid (below_more B4.out hb5 B4.out.size); clear hb5 r5 d0 d1 d2))
              all_goals (go_ret; exact ⟨ret_bool (by first | exact HV.out.symm | (rw [← HV.out]; simp [hkl]; done) | (rw [← HV.out]; simp [hkl, h50, h34]; done) | (rw [← HV.out, Bool.eq_iff_iff]; simp; omega)), B5.out⟩)
          · by_cases hq2 : q = 2
            · rw [hq2, show decide ((2 : Int) ≠ 2) = false from rfl, Bool.and_false, Bool.not_false, Bool.true_and] at hV
              unfold lastB at hV
              by_cases hkl : (k : Int) < o.code.length - 1
              · rw [decide_eq_true hkl] at hV
                have HV := Lib.hid hV
                clear hV
                go_wp2_with (first
                  | (go_at_call 73; go_must (refine (goes_walk _ _).mono ?_); rw [HJ.out]; rintro en w5 ⟨rfl, hb5⟩; have r5 := R4.out.below hb5 R4.out.lt; have e0 := r5.cell 0; have e1 := r5.cell 1; have c9 := (hb5.cell (p := ⟨bc, oc + ja * 5, none⟩) (Nat.lt_of_lt_of_le hbc B4.out.size)).trans ((B4.out.cell (p := ⟨bc, oc + ja * 5, none⟩) hbc).trans i9); have B5 := Lib.hid (below_more B4.out hb5 B4.out.size); clear hb5 r5 d0 d1 d2))
                all_goals (go_ret; exact ⟨ret_bool (by first | exact HV.out.symm | (rw [← HV.out]; simp [hkl]; done) | (rw [← HV.out]; simp [hkl, h50, h34]; done) | (rw [← HV.out, Bool.eq_iff_iff]; simp; omega)), B5.out⟩)
              · rw [decide_eq_false hkl] at hV
                have HV := Lib.hid hV
                clear hV
                go_wp2_with (first
                  | (go_at_call 73; go_must (refine (goes_walk _ _).mono ?_); rw [HJ.out]; rintro en w5 ⟨rfl, hb5⟩; have r5 := R4.out.below hb5 R4.out.lt; have e0 := r5.cell 0; have e1 := r5.cell 1; have c9 := (hb5.cell (p := ⟨bc, oc + ja * 5, none⟩) (Nat.lt_of_lt_of_le hbc B4.out.size)).trans ((B4.out.cell (p := ⟨bc, oc + ja * 5, none⟩) hbc).trans i9); have B5 := Lib.hid (below_more B4.out hb5 B4.out.size); clear hb5 r5 d0 d1 d2))
                all_goals (go_ret; exact ⟨ret_bool (by first | exact HV.out.symm | (rw [← HV.out]; simp [hkl]; done) | (rw [← HV.out]; simp [hkl, h50, h34]; done) | (rw [← HV.out, Bool.eq_iff_iff]; simp; omega)), B5.out⟩)
            · rw [decide_eq_true hq1, decide_eq_true hq2, Bool.true_and, Bool.not_true, Bool.false_and] at hV
              have hq3 : (q != 1) = true := bne_iff_ne.2 hq1
              have hq4 : (q != 2) = true := bne_iff_ne.2 hq2
              have HV := Lib.hid hV
              clear hV
              go_wp2_with (first
                | (go_at_call 73; go_must (refine (goes_walk _ _).mono ?_); rw [HJ.out]; rintro en w5 ⟨rfl, hb5⟩; have r5 := R4.out.below hb5 R4.out.lt; have e0 := r5.cell 0; have e1 := r5.cell 1; have c9 := (hb5.cell (p := ⟨bc, oc + ja * 5, none⟩) (Nat.lt_of_lt_of_le hbc B4.out.size)).trans ((B4.out.cell (p := ⟨bc, oc + ja * 5, none⟩) hbc).trans i9); have B5 := Lib.hid (below_more B4.out hb5 B4.out.size); clear hb5 r5 d0 d1 d2))
              all_goals (go_ret; exact ⟨ret_bool (by first | exact HV.out.symm | (rw [← HV.out]; simp [hkl]; done) | (rw [← HV.out]; simp [hkl, h50, h34]; done) | (rw [← HV.out, Bool.eq_iff_iff]; simp; omega)), B5.out⟩)
        · rw [decide_eq_false hle, Bool.false_and, Bool.false_and, Bool.not_false, Bool.true_and] at hV
          unfold lastB at hV
          by_cases hkl : (k : Int) < o.code.length - 1
          · rw [decide_eq_true hkl] at hV
            have HV := Lib.hid hV
            clear hV
            go_wp2_with (first
              | (go_at_call 73; go_must (refine (goes_walk _ _).mono ?_); rw [HJ.out]; rintro en w5 ⟨rfl, hb5⟩; have r5 := R4.out.below hb5 R4.out.lt; have e0 := r5.cell 0; have e1 := r5.cell 1; have c9 := (hb5.cell (p := ⟨bc, oc + ja * 5, none⟩) (Nat.lt_of_lt_of_le hbc B4.out.size)).trans ((B4.out.cell (p := ⟨bc, oc + ja * 5, none⟩) hbc).trans i9); have B5 := Lib.hid (below_more B4.out hb5 B4.out.size); clear hb5 r5 d0 d1 d2))
            all_goals (go_ret; exact ⟨ret_bool (by first | exact HV.out.symm | (rw [← HV.out]; simp [hkl]; done) | (rw [← HV.out]; simp [hkl, h50, h34]; done) | (rw [← HV.out, Bool.eq_iff_iff]; simp; omega)), B5.out⟩)
          · rw [decide_eq_false hkl] at hV
            have HV := Lib.hid hV
            clear hV
            go_wp2_with (first
              | (go_at_call 73; go_must (refine (goes_walk _ _).mono ?_); rw [HJ.out]; rintro en w5 ⟨rfl, hb5⟩; have r5 := R4.out.below hb5 R4.out.lt; have e0 := r5.cell 0; have e1 := r5.cell 1; have c9 := (hb5.cell (p := ⟨bc, oc + ja * 5, none⟩) (Nat.lt_of_lt_of_le hbc B4.out.size)).trans ((B4.out.cell (p := ⟨bc, oc + ja * 5, none⟩) hbc).trans i9); have B5 := Lib.hid (below_more B4.out hb5 B4.out.size); clear hb5 r5 d0 d1 d2))
            all_goals (go_ret; exact ⟨ret_bool (by first | exact HV.out.symm | (rw [← HV.out]; simp [hkl]; done) | (rw [← HV.out]; simp [hkl, h50, h34]; done) | (rw [← HV.out, Bool.eq_iff_iff]; simp; omega)), B5.out⟩)
      · have HJ := Lib.hid (decide_eq_false hj)
        have hback : backB o.code k x = false := by unfold backB; rw [decide_eq_false hj]; rfl
        rw [hback, Bool.not_false, Bool.true_and] at hV
        clear hback hj
        unfold lastB at hV
        by_cases hkl : (k : Int) < o.code.length - 1
        · rw [decide_eq_true hkl, Bool.true_or, Bool.true_or] at hV
          have HV := Lib.hid hV
          clear hV
          go_wp2_with (first
            | (go_at_call 73; go_must (refine (goes_walk _ _).mono ?_); rw [HJ.out]; rintro en w5 ⟨rfl, hb5⟩; have r5 := R4.out.below hb5 R4.out.lt; have e0 := r5.cell 0; have e1 := r5.cell 1; have B5 := Lib.hid (below_more B4.out hb5 B4.out.size); clear hb5 r5 d0 d1 d2))
          all_goals (go_ret; exact ⟨ret_bool (by first | exact HV.out.symm | (rw [← HV.out]; simp [hkl]; done) | (rw [← HV.out]; simp [hkl, h50, h34]; done) | (rw [← HV.out, Bool.eq_iff_iff]; simp; omega)), B5.out⟩)
        · rw [decide_eq_false hkl, Bool.false_or] at hV
          by_cases h50 : x.op = 50
          · rw [decide_eq_true h50, Bool.true_or] at hV
            rw [h50] at HJ
            have HV := Lib.hid hV
            clear hV
            go_wp2_with (first
              | (go_at_call 73; go_must (refine (goes_walk _ _).mono ?_); rw [HJ.out]; rintro en w5 ⟨rfl, hb5⟩; have r5 := R4.out.below hb5 R4.out.lt; have e0 := r5.cell 0; have e1 := r5.cell 1; have B5 := Lib.hid (below_more B4.out hb5 B4.out.size); clear hb5 r5 d0 d1 d2))
            all_goals (go_ret; exact ⟨ret_bool (by first | exact HV.out.symm | (rw [← HV.out]; simp [hkl]; done) | (rw [← HV.out]; simp [hkl, h50, h34]; done) | (rw [← HV.out, Bool.eq_iff_iff]; simp; omega)), B5.out⟩)
          · rw [decide_eq_false h50, Bool.false_or] at hV
            by_cases h34 : x.op = 34
            · rw [decide_eq_true h34] at hV
              rw [h34] at HJ
              have HV := Lib.hid hV
              clear hV
              go_wp2_with (first
                | (go_at_call 73; go_must (refine (goes_walk _ _).mono ?_); rw [HJ.out]; rintro en w5 ⟨rfl, hb5⟩; have r5 := R4.out.below hb5 R4.out.lt; have e0 := r5.cell 0; have e1 := r5.cell 1; have B5 := Lib.hid (below_more B4.out hb5 B4.out.size); clear hb5 r5 d0 d1 d2))
              all_goals (go_ret; exact ⟨ret_bool (by first | exact HV.out.symm | (rw [← HV.out]; simp [hkl]; done) | (rw [← HV.out]; simp [hkl, h50, h34]; done) | (rw [← HV.out, Bool.eq_iff_iff]; simp; omega)), B5.out⟩)
            · rw [decide_eq_false h34] at hV
              have HV := Lib.hid hV
              clear hV
              go_wp2_with (first
                | (go_at_call 73; go_must (refine (goes_walk _ _).mono ?_); rw [HJ.out]; rintro en w5 ⟨rfl, hb5⟩; have r5 := R4.out.below hb5 R4.out.lt; have e0 := r5.cell 0; have e1 := r5.cell 1; have B5 := Lib.hid (below_more B4.out hb5 B4.out.size); clear hb5 r5 d0 d1 d2))
              all_goals (go_ret; exact ⟨ret_bool (by first | exact HV.out.symm | (rw [← HV.out]; simp [hkl]; done) | (rw [← HV.out]; simp [hkl, h50, h34]; done) | (rw [← HV.out, Bool.eq_iff_iff]; simp; omega)), B5.out⟩)
    · rw [decide_eq_false hb0, Bool.false_and, Bool.false_and] at hV
      have q0 : (x.b != 0) = true := bne_iff_ne.2 hb0
      have HV := Lib.hid hV
      clear hV
      go_wp2
      all_goals (go_ret; exact ⟨ret_bool (by first | exact HV.out.symm | (rw [← HV.out]; simp [hkl]; done) | (rw [← HV.out]; simp [hkl, h50, h34]; done) | (rw [← HV.out, Bool.eq_iff_iff]; simp; omega)), B4.out⟩)
end Go.Proofs.YtmecmlpoallpcaaGreatDoor
