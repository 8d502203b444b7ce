/- code.numbered: does an instruction's number lie within its bounds? (Printed by gen_numbered.py.) -/
import Derived.Test.YtmecmlpoallpcaaGreatDoorM15
import Derived.RegionTactic
import Derived.Deep.DeepMust
namespace Go.Proofs.YtmecmlpoallpcaaGreatDoor
set_option linter.unusedVariables false
open Go.RowKit Go.Proofs.PeepPlain

def withinB (a n : Int) : Bool := decide (0 ≤ a) && decide (a < n)
theorem within_lt {a n : Int} (h : 0 ≤ a) : withinB a n = decide (a < n) := by unfold withinB; rw [decide_eq_true h, Bool.true_and]
theorem within_neg {a n : Int} (h : ¬ 0 ≤ a) : withinB a n = false := by unfold withinB; rw [decide_eq_false h, Bool.false_and]
theorem num_prep {w w2 : World} (p0 p1 v0 v1 v2 v3 v4 o0 o1 o2 o3 o4 o5 : Value) (hb : Below (((w.alloc (.cells #[p0, p1] 25)).alloc (.cells #[v0, v1, v2, v3, v4] 50)).alloc (.cells #[o0, o1, o2, o3, o4, o5] 47)).heap.size (((w.alloc (.cells #[p0, p1] 25)).alloc (.cells #[v0, v1, v2, v3, v4] 50)).alloc (.cells #[o0, o1, o2, o3, o4, o5] 47)) w2) :
    Below w.heap.size w w2 ∧ Row w2 w.heap.size 25 [p0, p1] ∧ Row w2 (w.heap.size + 1) 50 [v0, v1, v2, v3, v4] ∧ Row w2 (w.heap.size + 1 + 1) 47 [o0, o1, o2, o3, o4, o5] := by
  have e1 : (w.alloc (.cells #[p0, p1] 25)).heap.size = w.heap.size + 1 := by show (w.heap.push _).size = _; rw [Array.size_push]
  have e2 : ((w.alloc (.cells #[p0, p1] 25)).alloc (.cells #[v0, v1, v2, v3, v4] 50)).heap.size = w.heap.size + 1 + 1 := by show ((w.alloc (.cells #[p0, p1] 25)).heap.push _).size = _; rw [Array.size_push, e1]
  have r1 : Row (w.alloc (.cells #[p0, p1] 25)) w.heap.size 25 [p0, p1] := Row.made w 25 [p0, p1]
  have r2 : Row ((w.alloc (.cells #[p0, p1] 25)).alloc (.cells #[v0, v1, v2, v3, v4] 50)) (w.heap.size + 1) 50 [v0, v1, v2, v3, v4] := e1 ▸ Row.made (w.alloc (.cells #[p0, p1] 25)) 50 [v0, v1, v2, v3, v4]
  have r3 : Row (((w.alloc (.cells #[p0, p1] 25)).alloc (.cells #[v0, v1, v2, v3, v4] 50)).alloc (.cells #[o0, o1, o2, o3, o4, o5] 47)) (w.heap.size + 1 + 1) 47 [o0, o1, o2, o3, o4, o5] := e2 ▸ Row.made ((w.alloc (.cells #[p0, p1] 25)).alloc (.cells #[v0, v1, v2, v3, v4] 50)) 47 [o0, o1, o2, o3, o4, o5]
  have r1' := (r1.alloc (.cells #[v0, v1, v2, v3, v4] 50)).alloc (.cells #[o0, o1, o2, o3, o4, o5] 47)
  have r2' := r2.alloc (.cells #[o0, o1, o2, o3, o4, o5] 47)
  have hz : w.heap.size ≤ (((w.alloc (.cells #[p0, p1] 25)).alloc (.cells #[v0, v1, v2, v3, v4] 50)).alloc (.cells #[o0, o1, o2, o3, o4, o5] 47)).heap.size := by show w.heap.size ≤ (((w.alloc (.cells #[p0, p1] 25)).alloc (.cells #[v0, v1, v2, v3, v4] 50)).heap.push _).size; rw [Array.size_push, e2]; omega
  refine ⟨below_more (((below1 w _).alloc (by rw [e1]; omega) _).alloc (by rw [e2]; omega) _) hb hz, r1'.below hb r1'.lt, r2'.below hb r2'.lt, r3.below hb r3.lt⟩

set_option maxRecDepth 20000 in
theorem num_0 (fs : List Fn) (A GA : Option Addr) (fc gl gc f : Nat) (x : Ins) (w : World) (hF : FnsAt w A fs) (hf : f < fs.length) (hlen : fs.length ≤ 100000) (h : (formOf x.op).a = 0) :
    Calls Tryz.prog 71 #[.agg #[.slice A fs.length fc, .slice GA gl gc], .int .i64 f, .agg #[.int .i64 x.op, .int .i64 x.a, .int .i64 x.b, .string x.text, .int .i64 x.pos]] w fun e w' => e = .returned (.bool (decide (x.a = 0))) ∧ Below w.heap.size w w' := by
  obtain ⟨F, hF1⟩ : ∃ F, formOf x.op = F := ⟨_, rfl⟩
  have hfm := forms_as x.op F hF1
  have hfd := field_a (.string F.word) (.int .i64 F.a) (.int .i64 F.text) (.string F.takes) (.string F.lays)
  rw [hF1] at h
  rw [h] at hfm hfd
  clear hF1 h
  obtain ⟨b, off, rfl, hb, hcs⟩ := hF.at_ (by omega)
  obtain ⟨h0, h1, h2, h3, h4, h5⟩ := hcs f hf

  clear hF
  generalize fs[f] = o at h0 h1 h2 h3 h4 h5 
  clear hcs
  go_enter Tryz.func71, Tryz.ntmps71
  go_wp2_with (first
    | (go_at_call 70; refine (hfm _).mono ?_; rintro en w2 ⟨rfl, hb2⟩; go_must (obtain ⟨hbw, r1, r2, r3⟩ := num_prep _ _ _ _ _ _ _ _ _ _ _ _ _ hb2); have c1 := r1.cell 0; have c2 := r1.cell 1; have c3 := r2.cell 1; have c4 := r3.cell 2; have c5 := r3.cell 3; have c6 := r3.cell 5; have HBW := Lib.hid hbw; clear hb2 hbw r1 r2 r3))
  all_goals (go_ret; refine ⟨ret_bool ?_, HBW.out⟩)
  all_goals first | rfl | (rw [Bool.eq_iff_iff]; simp; done) | (rw [Bool.eq_iff_iff]; simp [*]; done) | (rw [Bool.eq_iff_iff]; simp; omega)

set_option maxRecDepth 20000 in
theorem num_1 (fs : List Fn) (A GA : Option Addr) (fc gl gc f : Nat) (x : Ins) (w : World) (hF : FnsAt w A fs) (hf : f < fs.length) (hlen : fs.length ≤ 100000) (h : (formOf x.op).a = 1) :
    Calls Tryz.prog 71 #[.agg #[.slice A fs.length fc, .slice GA gl gc], .int .i64 f, .agg #[.int .i64 x.op, .int .i64 x.a, .int .i64 x.b, .string x.text, .int .i64 x.pos]] w fun e w' => e = .returned (.bool (withinB x.a 2)) ∧ Below w.heap.size w w' := by
  obtain ⟨F, hF1⟩ : ∃ F, formOf x.op = F := ⟨_, rfl⟩
  have hfm := forms_as x.op F hF1
  have hfd := field_a (.string F.word) (.int .i64 F.a) (.int .i64 F.text) (.string F.takes) (.string F.lays)
  rw [hF1] at h
  rw [h] at hfm hfd
  clear hF1 h
  obtain ⟨b, off, rfl, hb, hcs⟩ := hF.at_ (by omega)
  obtain ⟨h0, h1, h2, h3, h4, h5⟩ := hcs f hf

  clear hF
  generalize fs[f] = o at h0 h1 h2 h3 h4 h5 
  clear hcs
  by_cases hp : 0 ≤ x.a
  · rw [within_lt hp]
    go_enter Tryz.func71, Tryz.ntmps71
    go_wp2_with (first
      | (go_at_call 70; refine (hfm _).mono ?_; rintro en w2 ⟨rfl, hb2⟩; go_must (obtain ⟨hbw, r1, r2, r3⟩ := num_prep _ _ _ _ _ _ _ _ _ _ _ _ _ hb2); have c1 := r1.cell 0; have c2 := r1.cell 1; have c3 := r2.cell 1; have c4 := r3.cell 2; have c5 := r3.cell 3; have c6 := r3.cell 5; have HBW := Lib.hid hbw; clear hb2 hbw r1 r2 r3))
    go_ret
    exact ⟨ret_bool (by first | rfl | simp), HBW.out⟩
  · rw [within_neg hp]
    go_enter Tryz.func71, Tryz.ntmps71
    go_wp2_with (first
      | (go_at_call 70; refine (hfm _).mono ?_; rintro en w2 ⟨rfl, hb2⟩; go_must (obtain ⟨hbw, r1, r2, r3⟩ := num_prep _ _ _ _ _ _ _ _ _ _ _ _ _ hb2); have c1 := r1.cell 0; have c2 := r1.cell 1; have c3 := r2.cell 1; have c4 := r3.cell 2; have c5 := r3.cell 3; have c6 := r3.cell 5; have HBW := Lib.hid hbw; clear hb2 hbw r1 r2 r3))
    go_ret
    exact ⟨rfl, HBW.out⟩

set_option maxRecDepth 20000 in
theorem num_2 (fs : List Fn) (A GA : Option Addr) (fc gl gc f : Nat) (x : Ins) (w : World) (hF : FnsAt w A fs) (hf : f < fs.length) (hlen : fs.length ≤ 100000) (h : (formOf x.op).a = 2) :
    Calls Tryz.prog 71 #[.agg #[.slice A fs.length fc, .slice GA gl gc], .int .i64 f, .agg #[.int .i64 x.op, .int .i64 x.a, .int .i64 x.b, .string x.text, .int .i64 x.pos]] w fun e w' => e = .returned (.bool (withinB x.a 3)) ∧ Below w.heap.size w w' := by
  obtain ⟨F, hF1⟩ : ∃ F, formOf x.op = F := ⟨_, rfl⟩
  have hfm := forms_as x.op F hF1
  have hfd := field_a (.string F.word) (.int .i64 F.a) (.int .i64 F.text) (.string F.takes) (.string F.lays)
  rw [hF1] at h
  rw [h] at hfm hfd
  clear hF1 h
  obtain ⟨b, off, rfl, hb, hcs⟩ := hF.at_ (by omega)
  obtain ⟨h0, h1, h2, h3, h4, h5⟩ := hcs f hf

  clear hF
  generalize fs[f] = o at h0 h1 h2 h3 h4 h5 
  clear hcs
  by_cases hp : 0 ≤ x.a
  · rw [within_lt hp]
    go_enter Tryz.func71, Tryz.ntmps71
    go_wp2_with (first
      | (go_at_call 70; refine (hfm _).mono ?_; rintro en w2 ⟨rfl, hb2⟩; go_must (obtain ⟨hbw, r1, r2, r3⟩ := num_prep _ _ _ _ _ _ _ _ _ _ _ _ _ hb2); have c1 := r1.cell 0; have c2 := r1.cell 1; have c3 := r2.cell 1; have c4 := r3.cell 2; have c5 := r3.cell 3; have c6 := r3.cell 5; have HBW := Lib.hid hbw; clear hb2 hbw r1 r2 r3))
    go_ret
    exact ⟨ret_bool (by first | rfl | simp), HBW.out⟩
  · rw [within_neg hp]
    go_enter Tryz.func71, Tryz.ntmps71
    go_wp2_with (first
      | (go_at_call 70; refine (hfm _).mono ?_; rintro en w2 ⟨rfl, hb2⟩; go_must (obtain ⟨hbw, r1, r2, r3⟩ := num_prep _ _ _ _ _ _ _ _ _ _ _ _ _ hb2); have c1 := r1.cell 0; have c2 := r1.cell 1; have c3 := r2.cell 1; have c4 := r3.cell 2; have c5 := r3.cell 3; have c6 := r3.cell 5; have HBW := Lib.hid hbw; clear hb2 hbw r1 r2 r3))
    go_ret
    exact ⟨rfl, HBW.out⟩

set_option maxRecDepth 20000 in
theorem num_3 (fs : List Fn) (A GA : Option Addr) (fc gl gc f : Nat) (x : Ins) (w : World) (hF : FnsAt w A fs) (hf : f < fs.length) (hlen : fs.length ≤ 100000) (h : (formOf x.op).a = 3) :
    Calls Tryz.prog 71 #[.agg #[.slice A fs.length fc, .slice GA gl gc], .int .i64 f, .agg #[.int .i64 x.op, .int .i64 x.a, .int .i64 x.b, .string x.text, .int .i64 x.pos]] w fun e w' => e = .returned (.bool (withinB x.a (fs.getD f default).slots)) ∧ Below w.heap.size w w' := by
  obtain ⟨F, hF1⟩ : ∃ F, formOf x.op = F := ⟨_, rfl⟩
  have hfm := forms_as x.op F hF1
  have hfd := field_a (.string F.word) (.int .i64 F.a) (.int .i64 F.text) (.string F.takes) (.string F.lays)
  rw [hF1] at h
  rw [h] at hfm hfd
  clear hF1 h
  obtain ⟨b, off, rfl, hb, hcs⟩ := hF.at_ (by omega)
  obtain ⟨h0, h1, h2, h3, h4, h5⟩ := hcs f hf

  clear hF
  rw [List.getD_eq_getElem?_getD, List.getElem?_eq_getElem hf, Option.getD_some]
  generalize fs[f] = o at h0 h1 h2 h3 h4 h5 ⊢
  clear hcs
  by_cases hp : 0 ≤ x.a
  · rw [within_lt hp]
    go_enter Tryz.func71, Tryz.ntmps71
    go_wp2_with (first
      | (go_at_call 70; refine (hfm _).mono ?_; rintro en w2 ⟨rfl, hb2⟩; go_must (obtain ⟨hbw, r1, r2, r3⟩ := num_prep _ _ _ _ _ _ _ _ _ _ _ _ _ hb2); have c1 := r1.cell 0; have c2 := r1.cell 1; have c3 := r2.cell 1; have c4 := r3.cell 2; have c5 := r3.cell 3; have c6 := r3.cell 5; have HBW := Lib.hid hbw; clear hb2 hbw r1 r2 r3))
    go_ret
    exact ⟨ret_bool (by first | rfl | simp), HBW.out⟩
  · rw [within_neg hp]
    go_enter Tryz.func71, Tryz.ntmps71
    go_wp2_with (first
      | (go_at_call 70; refine (hfm _).mono ?_; rintro en w2 ⟨rfl, hb2⟩; go_must (obtain ⟨hbw, r1, r2, r3⟩ := num_prep _ _ _ _ _ _ _ _ _ _ _ _ _ hb2); have c1 := r1.cell 0; have c2 := r1.cell 1; have c3 := r2.cell 1; have c4 := r3.cell 2; have c5 := r3.cell 3; have c6 := r3.cell 5; have HBW := Lib.hid hbw; clear hb2 hbw r1 r2 r3))
    go_ret
    exact ⟨rfl, HBW.out⟩

set_option maxRecDepth 20000 in
theorem num_4 (fs : List Fn) (A GA : Option Addr) (fc gl gc f : Nat) (x : Ins) (w : World) (hF : FnsAt w A fs) (hf : f < fs.length) (hlen : fs.length ≤ 100000) (h : (formOf x.op).a = 4) :
    Calls Tryz.prog 71 #[.agg #[.slice A fs.length fc, .slice GA gl gc], .int .i64 f, .agg #[.int .i64 x.op, .int .i64 x.a, .int .i64 x.b, .string x.text, .int .i64 x.pos]] w fun e w' => e = .returned (.bool (withinB x.a gl)) ∧ Below w.heap.size w w' := by
  obtain ⟨F, hF1⟩ : ∃ F, formOf x.op = F := ⟨_, rfl⟩
  have hfm := forms_as x.op F hF1
  have hfd := field_a (.string F.word) (.int .i64 F.a) (.int .i64 F.text) (.string F.takes) (.string F.lays)
  rw [hF1] at h
  rw [h] at hfm hfd
  clear hF1 h
  obtain ⟨b, off, rfl, hb, hcs⟩ := hF.at_ (by omega)
  obtain ⟨h0, h1, h2, h3, h4, h5⟩ := hcs f hf

  clear hF
  generalize fs[f] = o at h0 h1 h2 h3 h4 h5 
  clear hcs
  by_cases hp : 0 ≤ x.a
  · rw [within_lt hp]
    go_enter Tryz.func71, Tryz.ntmps71
    go_wp2_with (first
      | (go_at_call 70; refine (hfm _).mono ?_; rintro en w2 ⟨rfl, hb2⟩; go_must (obtain ⟨hbw, r1, r2, r3⟩ := num_prep _ _ _ _ _ _ _ _ _ _ _ _ _ hb2); have c1 := r1.cell 0; have c2 := r1.cell 1; have c3 := r2.cell 1; have c4 := r3.cell 2; have c5 := r3.cell 3; have c6 := r3.cell 5; have HBW := Lib.hid hbw; clear hb2 hbw r1 r2 r3))
    go_ret
    exact ⟨ret_bool (by first | rfl | simp), HBW.out⟩
  · rw [within_neg hp]
    go_enter Tryz.func71, Tryz.ntmps71
    go_wp2_with (first
      | (go_at_call 70; refine (hfm _).mono ?_; rintro en w2 ⟨rfl, hb2⟩; go_must (obtain ⟨hbw, r1, r2, r3⟩ := num_prep _ _ _ _ _ _ _ _ _ _ _ _ _ hb2); have c1 := r1.cell 0; have c2 := r1.cell 1; have c3 := r2.cell 1; have c4 := r3.cell 2; have c5 := r3.cell 3; have c6 := r3.cell 5; have HBW := Lib.hid hbw; clear hb2 hbw r1 r2 r3))
    go_ret
    exact ⟨rfl, HBW.out⟩

set_option maxRecDepth 20000 in
theorem num_5 (fs : List Fn) (A GA : Option Addr) (fc gl gc f : Nat) (x : Ins) (w : World) (hF : FnsAt w A fs) (hf : f < fs.length) (hlen : fs.length ≤ 100000) (h : (formOf x.op).a = 5) :
    Calls Tryz.prog 71 #[.agg #[.slice A fs.length fc, .slice GA gl gc], .int .i64 f, .agg #[.int .i64 x.op, .int .i64 x.a, .int .i64 x.b, .string x.text, .int .i64 x.pos]] w fun e w' => e = .returned (.bool (withinB x.a (fs.getD f default).taken.length)) ∧ Below w.heap.size w w' := by
  obtain ⟨F, hF1⟩ : ∃ F, formOf x.op = F := ⟨_, rfl⟩
  have hfm := forms_as x.op F hF1
  have hfd := field_a (.string F.word) (.int .i64 F.a) (.int .i64 F.text) (.string F.takes) (.string F.lays)
  rw [hF1] at h
  rw [h] at hfm hfd
  clear hF1 h
  obtain ⟨b, off, rfl, hb, hcs⟩ := hF.at_ (by omega)
  obtain ⟨h0, h1, h2, h3, h4, h5⟩ := hcs f hf

  clear hF
  rw [List.getD_eq_getElem?_getD, List.getElem?_eq_getElem hf, Option.getD_some]
  generalize fs[f] = o at h0 h1 h2 h3 h4 h5 ⊢
  clear hcs
  by_cases hp : 0 ≤ x.a
  · rw [within_lt hp]
    go_enter Tryz.func71, Tryz.ntmps71
    go_wp2_with (first
      | (go_at_call 70; refine (hfm _).mono ?_; rintro en w2 ⟨rfl, hb2⟩; go_must (obtain ⟨hbw, r1, r2, r3⟩ := num_prep _ _ _ _ _ _ _ _ _ _ _ _ _ hb2); have c1 := r1.cell 0; have c2 := r1.cell 1; have c3 := r2.cell 1; have c4 := r3.cell 2; have c5 := r3.cell 3; have c6 := r3.cell 5; have HBW := Lib.hid hbw; clear hb2 hbw r1 r2 r3))
    go_ret
    exact ⟨ret_bool (by first | rfl | simp), HBW.out⟩
  · rw [within_neg hp]
    go_enter Tryz.func71, Tryz.ntmps71
    go_wp2_with (first
      | (go_at_call 70; refine (hfm _).mono ?_; rintro en w2 ⟨rfl, hb2⟩; go_must (obtain ⟨hbw, r1, r2, r3⟩ := num_prep _ _ _ _ _ _ _ _ _ _ _ _ _ hb2); have c1 := r1.cell 0; have c2 := r1.cell 1; have c3 := r2.cell 1; have c4 := r3.cell 2; have c5 := r3.cell 3; have c6 := r3.cell 5; have HBW := Lib.hid hbw; clear hb2 hbw r1 r2 r3))
    go_ret
    exact ⟨rfl, HBW.out⟩

set_option maxRecDepth 20000 in
theorem num_6 (fs : List Fn) (A GA : Option Addr) (fc gl gc f : Nat) (x : Ins) (w : World) (hF : FnsAt w A fs) (hf : f < fs.length) (hlen : fs.length ≤ 100000) (h : (formOf x.op).a = 6) :
    Calls Tryz.prog 71 #[.agg #[.slice A fs.length fc, .slice GA gl gc], .int .i64 f, .agg #[.int .i64 x.op, .int .i64 x.a, .int .i64 x.b, .string x.text, .int .i64 x.pos]] w fun e w' => e = .returned (.bool (decide (1 ≤ x.a) && decide (x.a ≤ 7))) ∧ Below w.heap.size w w' := by
  obtain ⟨F, hF1⟩ : ∃ F, formOf x.op = F := ⟨_, rfl⟩
  have hfm := forms_as x.op F hF1
  have hfd := field_a (.string F.word) (.int .i64 F.a) (.int .i64 F.text) (.string F.takes) (.string F.lays)
  rw [hF1] at h
  rw [h] at hfm hfd
  clear hF1 h
  obtain ⟨b, off, rfl, hb, hcs⟩ := hF.at_ (by omega)
  obtain ⟨h0, h1, h2, h3, h4, h5⟩ := hcs f hf

  clear hF
  generalize fs[f] = o at h0 h1 h2 h3 h4 h5 
  clear hcs
  go_enter Tryz.func71, Tryz.ntmps71
  go_wp2_with (first
    | (go_at_call 70; refine (hfm _).mono ?_; rintro en w2 ⟨rfl, hb2⟩; go_must (obtain ⟨hbw, r1, r2, r3⟩ := num_prep _ _ _ _ _ _ _ _ _ _ _ _ _ hb2); have c1 := r1.cell 0; have c2 := r1.cell 1; have c3 := r2.cell 1; have c4 := r3.cell 2; have c5 := r3.cell 3; have c6 := r3.cell 5; have HBW := Lib.hid hbw; clear hb2 hbw r1 r2 r3))
  all_goals (go_ret; refine ⟨ret_bool ?_, HBW.out⟩)
  all_goals first | rfl | (rw [Bool.eq_iff_iff]; simp; done) | (rw [Bool.eq_iff_iff]; simp [*]; done) | (rw [Bool.eq_iff_iff]; simp; omega)

set_option maxRecDepth 20000 in
theorem num_7 (fs : List Fn) (A GA : Option Addr) (fc gl gc f : Nat) (x : Ins) (w : World) (hF : FnsAt w A fs) (hf : f < fs.length) (hlen : fs.length ≤ 100000) (h : (formOf x.op).a = 7) :
    Calls Tryz.prog 71 #[.agg #[.slice A fs.length fc, .slice GA gl gc], .int .i64 f, .agg #[.int .i64 x.op, .int .i64 x.a, .int .i64 x.b, .string x.text, .int .i64 x.pos]] w fun e w' => e = .returned (.bool (withinB x.a 20001)) ∧ Below w.heap.size w w' := by
  obtain ⟨F, hF1⟩ : ∃ F, formOf x.op = F := ⟨_, rfl⟩
  have hfm := forms_as x.op F hF1
  have hfd := field_a (.string F.word) (.int .i64 F.a) (.int .i64 F.text) (.string F.takes) (.string F.lays)
  rw [hF1] at h
  rw [h] at hfm hfd
  clear hF1 h
  obtain ⟨b, off, rfl, hb, hcs⟩ := hF.at_ (by omega)
  obtain ⟨h0, h1, h2, h3, h4, h5⟩ := hcs f hf

  clear hF
  generalize fs[f] = o at h0 h1 h2 h3 h4 h5 
  clear hcs
  by_cases hp : 0 ≤ x.a
  · rw [within_lt hp]
    go_enter Tryz.func71, Tryz.ntmps71
    go_wp2_with (first
      | (go_at_call 70; refine (hfm _).mono ?_; rintro en w2 ⟨rfl, hb2⟩; go_must (obtain ⟨hbw, r1, r2, r3⟩ := num_prep _ _ _ _ _ _ _ _ _ _ _ _ _ hb2); have c1 := r1.cell 0; have c2 := r1.cell 1; have c3 := r2.cell 1; have c4 := r3.cell 2; have c5 := r3.cell 3; have c6 := r3.cell 5; have HBW := Lib.hid hbw; clear hb2 hbw r1 r2 r3))
    go_ret
    exact ⟨ret_bool (by first | rfl | simp), HBW.out⟩
  · rw [within_neg hp]
    go_enter Tryz.func71, Tryz.ntmps71
    go_wp2_with (first
      | (go_at_call 70; refine (hfm _).mono ?_; rintro en w2 ⟨rfl, hb2⟩; go_must (obtain ⟨hbw, r1, r2, r3⟩ := num_prep _ _ _ _ _ _ _ _ _ _ _ _ _ hb2); have c1 := r1.cell 0; have c2 := r1.cell 1; have c3 := r2.cell 1; have c4 := r3.cell 2; have c5 := r3.cell 3; have c6 := r3.cell 5; have HBW := Lib.hid hbw; clear hb2 hbw r1 r2 r3))
    go_ret
    exact ⟨rfl, HBW.out⟩

set_option maxRecDepth 20000 in
theorem num_8 (fs : List Fn) (A GA : Option Addr) (fc gl gc f : Nat) (x : Ins) (w : World) (hF : FnsAt w A fs) (hf : f < fs.length) (hlen : fs.length ≤ 100000) (h : (formOf x.op).a = 8) :
    Calls Tryz.prog 71 #[.agg #[.slice A fs.length fc, .slice GA gl gc], .int .i64 f, .agg #[.int .i64 x.op, .int .i64 x.a, .int .i64 x.b, .string x.text, .int .i64 x.pos]] w fun e w' => e = .returned (.bool (withinB x.a 31)) ∧ Below w.heap.size w w' := by
  obtain ⟨F, hF1⟩ : ∃ F, formOf x.op = F := ⟨_, rfl⟩
  have hfm := forms_as x.op F hF1
  have hfd := field_a (.string F.word) (.int .i64 F.a) (.int .i64 F.text) (.string F.takes) (.string F.lays)
  rw [hF1] at h
  rw [h] at hfm hfd
  clear hF1 h
  obtain ⟨b, off, rfl, hb, hcs⟩ := hF.at_ (by omega)
  obtain ⟨h0, h1, h2, h3, h4, h5⟩ := hcs f hf

  clear hF
  generalize fs[f] = o at h0 h1 h2 h3 h4 h5 
  clear hcs
  by_cases hp : 0 ≤ x.a
  · rw [within_lt hp]
    go_enter Tryz.func71, Tryz.ntmps71
    go_wp2_with (first
      | (go_at_call 70; refine (hfm _).mono ?_; rintro en w2 ⟨rfl, hb2⟩; go_must (obtain ⟨hbw, r1, r2, r3⟩ := num_prep _ _ _ _ _ _ _ _ _ _ _ _ _ hb2); have c1 := r1.cell 0; have c2 := r1.cell 1; have c3 := r2.cell 1; have c4 := r3.cell 2; have c5 := r3.cell 3; have c6 := r3.cell 5; have HBW := Lib.hid hbw; clear hb2 hbw r1 r2 r3))
    go_ret
    exact ⟨ret_bool (by first | rfl | simp), HBW.out⟩
  · rw [within_neg hp]
    go_enter Tryz.func71, Tryz.ntmps71
    go_wp2_with (first
      | (go_at_call 70; refine (hfm _).mono ?_; rintro en w2 ⟨rfl, hb2⟩; go_must (obtain ⟨hbw, r1, r2, r3⟩ := num_prep _ _ _ _ _ _ _ _ _ _ _ _ _ hb2); have c1 := r1.cell 0; have c2 := r1.cell 1; have c3 := r2.cell 1; have c4 := r3.cell 2; have c5 := r3.cell 3; have c6 := r3.cell 5; have HBW := Lib.hid hbw; clear hb2 hbw r1 r2 r3))
    go_ret
    exact ⟨rfl, HBW.out⟩

set_option maxRecDepth 20000 in
theorem num_10 (fs : List Fn) (A GA : Option Addr) (fc gl gc f : Nat) (x : Ins) (w : World) (hF : FnsAt w A fs) (hf : f < fs.length) (hlen : fs.length ≤ 100000) (h : (formOf x.op).a = 10) :
    Calls Tryz.prog 71 #[.agg #[.slice A fs.length fc, .slice GA gl gc], .int .i64 f, .agg #[.int .i64 x.op, .int .i64 x.a, .int .i64 x.b, .string x.text, .int .i64 x.pos]] w fun e w' => e = .returned (.bool (withinB x.a (fs.getD f default).code.length)) ∧ Below w.heap.size w w' := by
  obtain ⟨F, hF1⟩ : ∃ F, formOf x.op = F := ⟨_, rfl⟩
  have hfm := forms_as x.op F hF1
  have hfd := field_a (.string F.word) (.int .i64 F.a) (.int .i64 F.text) (.string F.takes) (.string F.lays)
  rw [hF1] at h
  rw [h] at hfm hfd
  clear hF1 h
  obtain ⟨b, off, rfl, hb, hcs⟩ := hF.at_ (by omega)
  obtain ⟨h0, h1, h2, h3, h4, h5⟩ := hcs f hf

  clear hF
  rw [List.getD_eq_getElem?_getD, List.getElem?_eq_getElem hf, Option.getD_some]
  generalize fs[f] = o at h0 h1 h2 h3 h4 h5 ⊢
  clear hcs
  by_cases hp : 0 ≤ x.a
  · rw [within_lt hp]
    go_enter Tryz.func71, Tryz.ntmps71
    go_wp2_with (first
      | (go_at_call 70; refine (hfm _).mono ?_; rintro en w2 ⟨rfl, hb2⟩; go_must (obtain ⟨hbw, r1, r2, r3⟩ := num_prep _ _ _ _ _ _ _ _ _ _ _ _ _ hb2); have c1 := r1.cell 0; have c2 := r1.cell 1; have c3 := r2.cell 1; have c4 := r3.cell 2; have c5 := r3.cell 3; have c6 := r3.cell 5; have HBW := Lib.hid hbw; clear hb2 hbw r1 r2 r3))
    go_ret
    exact ⟨ret_bool (by first | rfl | simp), HBW.out⟩
  · rw [within_neg hp]
    go_enter Tryz.func71, Tryz.ntmps71
    go_wp2_with (first
      | (go_at_call 70; refine (hfm _).mono ?_; rintro en w2 ⟨rfl, hb2⟩; go_must (obtain ⟨hbw, r1, r2, r3⟩ := num_prep _ _ _ _ _ _ _ _ _ _ _ _ _ hb2); have c1 := r1.cell 0; have c2 := r1.cell 1; have c3 := r2.cell 1; have c4 := r3.cell 2; have c5 := r3.cell 3; have c6 := r3.cell 5; have HBW := Lib.hid hbw; clear hb2 hbw r1 r2 r3))
    go_ret
    exact ⟨rfl, HBW.out⟩

set_option maxRecDepth 20000 in
theorem num_11 (fs : List Fn) (A GA : Option Addr) (fc gl gc f : Nat) (x : Ins) (w : World) (hF : FnsAt w A fs) (hf : f < fs.length) (hlen : fs.length ≤ 100000) (h : (formOf x.op).a = 11) :
    Calls Tryz.prog 71 #[.agg #[.slice A fs.length fc, .slice GA gl gc], .int .i64 f, .agg #[.int .i64 x.op, .int .i64 x.a, .int .i64 x.b, .string x.text, .int .i64 x.pos]] w fun e w' => e = .returned (.bool (decide (x.a = 2) || decide (x.a = 3))) ∧ Below w.heap.size w w' := by
  obtain ⟨F, hF1⟩ : ∃ F, formOf x.op = F := ⟨_, rfl⟩
  have hfm := forms_as x.op F hF1
  have hfd := field_a (.string F.word) (.int .i64 F.a) (.int .i64 F.text) (.string F.takes) (.string F.lays)
  rw [hF1] at h
  rw [h] at hfm hfd
  clear hF1 h
  obtain ⟨b, off, rfl, hb, hcs⟩ := hF.at_ (by omega)
  obtain ⟨h0, h1, h2, h3, h4, h5⟩ := hcs f hf

  clear hF
  generalize fs[f] = o at h0 h1 h2 h3 h4 h5 
  clear hcs
  go_enter Tryz.func71, Tryz.ntmps71
  go_wp2_with (first
    | (go_at_call 70; refine (hfm _).mono ?_; rintro en w2 ⟨rfl, hb2⟩; go_must (obtain ⟨hbw, r1, r2, r3⟩ := num_prep _ _ _ _ _ _ _ _ _ _ _ _ _ hb2); have c1 := r1.cell 0; have c2 := r1.cell 1; have c3 := r2.cell 1; have c4 := r3.cell 2; have c5 := r3.cell 3; have c6 := r3.cell 5; have HBW := Lib.hid hbw; clear hb2 hbw r1 r2 r3))
  all_goals (go_ret; refine ⟨ret_bool ?_, HBW.out⟩)
  all_goals first | rfl | (rw [Bool.eq_iff_iff]; simp; done) | (rw [Bool.eq_iff_iff]; simp [*]; done) | (rw [Bool.eq_iff_iff]; simp; omega)

set_option maxRecDepth 20000 in
theorem num_9 (fs : List Fn) (A GA : Option Addr) (fc gl gc f : Nat) (x : Ins) (w : World) (hF : FnsAt w A fs) (hf : f < fs.length) (hlen : fs.length ≤ 100000) (h : (formOf x.op).a = 9) :
    Calls Tryz.prog 71 #[.agg #[.slice A fs.length fc, .slice GA gl gc], .int .i64 f, .agg #[.int .i64 x.op, .int .i64 x.a, .int .i64 x.b, .string x.text, .int .i64 x.pos]] w fun e w' => e = .returned (.bool (decide (0 < x.a) && decide (x.a < fs.length) && (decide ((fs.getD x.a.toNat default).around = -1) || decide ((fs.getD x.a.toNat default).around = f)))) ∧ Below w.heap.size w w' := by
  obtain ⟨F, hF1⟩ : ∃ F, formOf x.op = F := ⟨_, rfl⟩
  have hfm := forms_as x.op F hF1
  have hfd := field_a (.string F.word) (.int .i64 F.a) (.int .i64 F.text) (.string F.takes) (.string F.lays)
  rw [hF1] at h
  rw [h] at hfm hfd
  clear hF1 h
  obtain ⟨b, off, rfl, hb, hcs⟩ := hF.at_ (by omega)
  obtain ⟨h0, h1, h2, h3, h4, h5⟩ := hcs f hf

  clear hF
  generalize fs[f] = o at h0 h1 h2 h3 h4 h5 
  by_cases hp : 0 < x.a
  · by_cases hq : x.a < fs.length
    · obtain ⟨k, hk⟩ : ∃ k : Nat, x.a = (k : Int) := ⟨x.a.toNat, by omega⟩
      have hkl : k < fs.length := by omega
      have h7 := (hcs k hkl).2.2.2.2.1
      clear hcs
      have hpk : (0 : Int) < (k : Int) := by omega
      have hqk : (k : Int) < (fs.length : Int) := by omega
      have e1 : fs.getD x.a.toNat default = fs[k] := by rw [hk, Int.toNat_natCast, List.getD_eq_getElem?_getD, List.getElem?_eq_getElem hkl, Option.getD_some]
      rw [e1, decide_eq_true hp, decide_eq_true hq]
      generalize fs[k] = ok at h7
      have HK := Lib.hid hk
      clear e1 hp hq
      go_enter Tryz.func71, Tryz.ntmps71
      go_wp2_with (first
        | (go_at_call 70; refine (hfm _).mono ?_; rintro en w2 ⟨rfl, hb2⟩; go_must (obtain ⟨hbw, r1, r2, r3⟩ := num_prep _ _ _ _ _ _ _ _ _ _ _ _ _ hb2); have c1 := r1.cell 0; have c2 := r1.cell 1; have c3 := r2.cell 1; have c4 := r3.cell 2; have c5 := r3.cell 3; have c6 := r3.cell 5; have c7 := (hbw.cell (p := ⟨b, off + k * 6 + 4, none⟩) hb).trans h7; have HBW := Lib.hid hbw; clear hb2 hbw r1 r2 r3))
      all_goals (go_ret; refine ⟨ret_bool ?_, HBW.out⟩)
      all_goals (clear hfm hfd h0 h1 h2 h3 h4 h5 h7 hk HK; first | (exfalso; omega) | (simp [*]; done) | (rw [Bool.eq_iff_iff]; simp [*]; done))
    · rw [decide_eq_false hq, Bool.and_false, Bool.false_and]
      clear hcs
      go_enter Tryz.func71, Tryz.ntmps71
      go_wp2_with (first
        | (go_at_call 70; refine (hfm _).mono ?_; rintro en w2 ⟨rfl, hb2⟩; go_must (obtain ⟨hbw, r1, r2, r3⟩ := num_prep _ _ _ _ _ _ _ _ _ _ _ _ _ hb2); have c1 := r1.cell 0; have c2 := r1.cell 1; have c3 := r2.cell 1; have c4 := r3.cell 2; have c5 := r3.cell 3; have c6 := r3.cell 5; have HBW := Lib.hid hbw; clear hb2 hbw r1 r2 r3))
      go_ret
      exact ⟨ret_bool (by first | rfl | simp), HBW.out⟩
  · rw [decide_eq_false hp, Bool.false_and, Bool.false_and]
    clear hcs
    go_enter Tryz.func71, Tryz.ntmps71
    go_wp2_with (first
      | (go_at_call 70; refine (hfm _).mono ?_; rintro en w2 ⟨rfl, hb2⟩; go_must (obtain ⟨hbw, r1, r2, r3⟩ := num_prep _ _ _ _ _ _ _ _ _ _ _ _ _ hb2); have c1 := r1.cell 0; have c2 := r1.cell 1; have c3 := r2.cell 1; have c4 := r3.cell 2; have c5 := r3.cell 3; have c6 := r3.cell 5; have HBW := Lib.hid hbw; clear hb2 hbw r1 r2 r3))
    go_ret
    exact ⟨ret_bool (by first | rfl | simp), HBW.out⟩

set_option maxRecDepth 20000 in
theorem num_no (fs : List Fn) (A GA : Option Addr) (fc gl gc f : Nat) (x : Ins) (w : World) (hF : FnsAt w A fs) (hf : f < fs.length) (hlen : fs.length ≤ 100000) (h0 : ¬ (formOf x.op).a = 0) (h1 : ¬ (formOf x.op).a = 1) (h2 : ¬ (formOf x.op).a = 2) (h3 : ¬ (formOf x.op).a = 3) (h4 : ¬ (formOf x.op).a = 4) (h5 : ¬ (formOf x.op).a = 5) (h6 : ¬ (formOf x.op).a = 6) (h7 : ¬ (formOf x.op).a = 7) (h8 : ¬ (formOf x.op).a = 8) (h9 : ¬ (formOf x.op).a = 9) (h10 : ¬ (formOf x.op).a = 10) (h11 : ¬ (formOf x.op).a = 11) :
    Calls Tryz.prog 71 #[.agg #[.slice A fs.length fc, .slice GA gl gc], .int .i64 f, .agg #[.int .i64 x.op, .int .i64 x.a, .int .i64 x.b, .string x.text, .int .i64 x.pos]] w fun e w' => e = .returned (.bool (withinB x.a 0)) ∧ Below w.heap.size w w' := by
  obtain ⟨F, hF1⟩ : ∃ F, formOf x.op = F := ⟨_, rfl⟩
  have hfm := forms_as x.op F hF1
  have hfd := field_a (.string F.word) (.int .i64 F.a) (.int .i64 F.text) (.string F.takes) (.string F.lays)
  rw [hF1] at h0 h1 h2 h3 h4 h5 h6 h7 h8 h9 h10 h11
  clear hF1
  obtain ⟨b, off, rfl, hb, hcs⟩ := hF.at_ (by omega)
  obtain ⟨g0, g1, g2, g3, g4, g5⟩ := hcs f hf

  clear hF
  generalize fs[f] = o at g0 g1 g2 g3 g4 g5 
  clear hcs
  by_cases hp : 0 ≤ x.a
  · rw [within_lt hp]
    go_enter Tryz.func71, Tryz.ntmps71
    go_wp2_with (first
      | (go_at_call 70; refine (hfm _).mono ?_; rintro en w2 ⟨rfl, hb2⟩; go_must (obtain ⟨hbw, r1, r2, r3⟩ := num_prep _ _ _ _ _ _ _ _ _ _ _ _ _ hb2); have c1 := r1.cell 0; have c2 := r1.cell 1; have c3 := r2.cell 1; have c4 := r3.cell 2; have c5 := r3.cell 3; have c6 := r3.cell 5; have HBW := Lib.hid hbw; clear hb2 hbw r1 r2 r3))
    go_ret
    exact ⟨ret_bool (by first | rfl | simp), HBW.out⟩
  · rw [within_neg hp]
    go_enter Tryz.func71, Tryz.ntmps71
    go_wp2_with (first
      | (go_at_call 70; refine (hfm _).mono ?_; rintro en w2 ⟨rfl, hb2⟩; go_must (obtain ⟨hbw, r1, r2, r3⟩ := num_prep _ _ _ _ _ _ _ _ _ _ _ _ _ hb2); have c1 := r1.cell 0; have c2 := r1.cell 1; have c3 := r2.cell 1; have c4 := r3.cell 2; have c5 := r3.cell 3; have c6 := r3.cell 5; have HBW := Lib.hid hbw; clear hb2 hbw r1 r2 r3))
    go_ret
    exact ⟨rfl, HBW.out⟩

/-- The contract of code.numbered. -/
theorem numbered_walk (fs : List Fn) (A GA : Option Addr) (fc gl gc f : Nat) (x : Ins) (w : World) (hF : FnsAt w A fs) (hf : f < fs.length) (hlen : fs.length ≤ 100000) :
    Calls Tryz.prog 71 #[.agg #[.slice A fs.length fc, .slice GA gl gc], .int .i64 f, .agg #[.int .i64 x.op, .int .i64 x.a, .int .i64 x.b, .string x.text, .int .i64 x.pos]] w fun e w' => e = .returned (.bool (numberedB fs gl f x)) ∧ Below w.heap.size w w' := by
  unfold numberedB
  dsimp only
  by_cases h0 : (formOf x.op).a = 0
  · rw [if_pos h0]
    exact num_0 fs A GA fc gl gc f x w hF hf hlen h0
  by_cases h1 : (formOf x.op).a = 1
  · rw [if_neg h0, if_pos h1]
    exact num_1 fs A GA fc gl gc f x w hF hf hlen h1
  by_cases h2 : (formOf x.op).a = 2
  · rw [if_neg h0, if_neg h1, if_pos h2]
    exact num_2 fs A GA fc gl gc f x w hF hf hlen h2
  by_cases h3 : (formOf x.op).a = 3
  · rw [if_neg h0, if_neg h1, if_neg h2, if_pos h3]
    exact num_3 fs A GA fc gl gc f x w hF hf hlen h3
  by_cases h4 : (formOf x.op).a = 4
  · rw [if_neg h0, if_neg h1, if_neg h2, if_neg h3, if_pos h4]
    exact num_4 fs A GA fc gl gc f x w hF hf hlen h4
  by_cases h5 : (formOf x.op).a = 5
  · rw [if_neg h0, if_neg h1, if_neg h2, if_neg h3, if_neg h4, if_pos h5]
    exact num_5 fs A GA fc gl gc f x w hF hf hlen h5
  by_cases h6 : (formOf x.op).a = 6
  · rw [if_neg h0, if_neg h1, if_neg h2, if_neg h3, if_neg h4, if_neg h5, if_pos h6]
    exact num_6 fs A GA fc gl gc f x w hF hf hlen h6
  by_cases h7 : (formOf x.op).a = 7
  · rw [if_neg h0, if_neg h1, if_neg h2, if_neg h3, if_neg h4, if_neg h5, if_neg h6, if_pos h7]
    exact num_7 fs A GA fc gl gc f x w hF hf hlen h7
  by_cases h8 : (formOf x.op).a = 8
  · rw [if_neg h0, if_neg h1, if_neg h2, if_neg h3, if_neg h4, if_neg h5, if_neg h6, if_neg h7, if_pos h8]
    exact num_8 fs A GA fc gl gc f x w hF hf hlen h8
  by_cases h9 : (formOf x.op).a = 9
  · rw [if_neg h0, if_neg h1, if_neg h2, if_neg h3, if_neg h4, if_neg h5, if_neg h6, if_neg h7, if_neg h8, if_pos h9]
    exact num_9 fs A GA fc gl gc f x w hF hf hlen h9
  by_cases h10 : (formOf x.op).a = 10
  · rw [if_neg h0, if_neg h1, if_neg h2, if_neg h3, if_neg h4, if_neg h5, if_neg h6, if_neg h7, if_neg h8, if_neg h9, if_pos h10]
    exact num_10 fs A GA fc gl gc f x w hF hf hlen h10
  by_cases h11 : (formOf x.op).a = 11
  · rw [if_neg h0, if_neg h1, if_neg h2, if_neg h3, if_neg h4, if_neg h5, if_neg h6, if_neg h7, if_neg h8, if_neg h9, if_neg h10, if_pos h11]
    exact num_11 fs A GA fc gl gc f x w hF hf hlen h11
  rw [if_neg h0, if_neg h1, if_neg h2, if_neg h3, if_neg h4, if_neg h5, if_neg h6, if_neg h7, if_neg h8, if_neg h9, if_neg h10, if_neg h11]
  exact num_no fs A GA fc gl gc f x w hF hf hlen h0 h1 h2 h3 h4 h5 h6 h7 h8 h9 h10 h11
end Go.Proofs.YtmecmlpoallpcaaGreatDoor
