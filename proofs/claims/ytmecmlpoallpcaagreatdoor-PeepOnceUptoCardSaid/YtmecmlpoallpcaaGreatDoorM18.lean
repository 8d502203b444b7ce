/- Texts of this proof, put together: FineNo, Wrong, Many, Outer, Globals. -/
import Derived.Test.YtmecmlpoallpcaaGreatDoorM17
import Derived.Handy
import Derived.Deep.DeepMust
set_option linter.unusedSimpArgs false
/- code.fine: the ways of its first test that answer false; its contract. (Printed by gen_fineno.py.) -/
namespace Go.Proofs.YtmecmlpoallpcaaGreatDoor
set_option linter.unusedVariables false
open Go.RowKit Go.Proofs.PeepPlain

set_option maxRecDepth 20000 in
set_option maxHeartbeats 8000000 in
theorem fine_word (fs : List Fn) (A GA : Option Addr) (fc gl gc f k : Nat) (w : World) (o : Fn) (x : Ins) (hF : FnsAt w A fs) (G : GlobP w) (hf : f < fs.length) (ho : fs[f] = o) (hlen : fs.length ≤ 100000) (hk : k < o.code.length) (hx : o.code[k] = x) (hcl : o.code.length ≤ 200000) (hs : x.text.size ≤ 2000000)
    (h1 : (formOf x.op).word.toList.isEmpty = true) :
    Calls Tryz.prog 40 #[.agg #[.slice A fs.length fc, .slice GA gl gc], .int .i64 f, .int .i64 k] w fun e w' => e = .returned (.bool false) ∧ Below w.heap.size w w' := by
  obtain ⟨F, hF1⟩ : ∃ F, formOf x.op = F := ⟨_, rfl⟩
  have hfm := forms_as x.op F hF1
  rw [hF1] at h1
  have HFS := Lib.hid hF
  have HI := Lib.hid (show InsAt w o.CA o.code from hF.code o (ho ▸ List.getElem_mem hf))
  obtain ⟨b, off, rfl, hb, hcs⟩ := hF.at_ (by omega)
  obtain ⟨g0, g1, g2, g3, g4, g5⟩ := hcs f hf
  rw [ho] at g0 g1 g2 g3 g4 g5
  obtain ⟨bc, oc, hCA, hbc, hic⟩ := HI.out.at_ (by omega)
  rw [hCA] at g5
  obtain ⟨i0, i1, i2, i3, i4⟩ := hic k hk
  rw [hx] at i0 i1 i2 i3 i4
  have HIC := Lib.hid hic
  have HG := Lib.hid G
  have HS := Lib.hid hs
  clear hF hcs hic G hs hx HI g0 g1 g2 g3 g4 hF1
  go_enter Tryz.func40, Tryz.ntmps40
  go_wp2_with (first
    | (go_at_call 70; refine (hfm _).mono ?_; rintro en w2 ⟨rfl, hb2⟩; go_must (obtain ⟨hbw, r1, r2⟩ := fine_prep _ _ _ _ _ _ _ hb2); have hz := r2.lt; have hz0 := r1.lt; have c0 := r1.cell 0; have c1 := r1.cell 1; have d0 := r2.cell 0; have d1 := r2.cell 1; have d2 := r2.cell 2; have d3 := r2.cell 3; have d4 := r2.cell 4; have HBW := Lib.hid hbw; have R1 := Lib.hid r1; have R2 := Lib.hid r2; clear hb2 hbw r1 r2))
  all_goals (go_ret; exact ⟨rfl, HBW.out.alloc (by omega) _⟩)

set_option maxRecDepth 20000 in
set_option maxHeartbeats 8000000 in
theorem fine_neg (fs : List Fn) (A GA : Option Addr) (fc gl gc f k : Nat) (w : World) (o : Fn) (x : Ins) (hF : FnsAt w A fs) (G : GlobP w) (hf : f < fs.length) (ho : fs[f] = o) (hlen : fs.length ≤ 100000) (hk : k < o.code.length) (hx : o.code[k] = x) (hcl : o.code.length ≤ 200000) (hs : x.text.size ≤ 2000000)
    (h1 : (formOf x.op).word.toList.isEmpty = false) (h2 : x.pos < 0) :
    Calls Tryz.prog 40 #[.agg #[.slice A fs.length fc, .slice GA gl gc], .int .i64 f, .int .i64 k] w fun e w' => e = .returned (.bool false) ∧ Below w.heap.size w w' := by
  obtain ⟨F, hF1⟩ : ∃ F, formOf x.op = F := ⟨_, rfl⟩
  have hfm := forms_as x.op F hF1
  rw [hF1] at h1
  have HFS := Lib.hid hF
  have HI := Lib.hid (show InsAt w o.CA o.code from hF.code o (ho ▸ List.getElem_mem hf))
  obtain ⟨b, off, rfl, hb, hcs⟩ := hF.at_ (by omega)
  obtain ⟨g0, g1, g2, g3, g4, g5⟩ := hcs f hf
  rw [ho] at g0 g1 g2 g3 g4 g5
  obtain ⟨bc, oc, hCA, hbc, hic⟩ := HI.out.at_ (by omega)
  rw [hCA] at g5
  obtain ⟨i0, i1, i2, i3, i4⟩ := hic k hk
  rw [hx] at i0 i1 i2 i3 i4
  have HIC := Lib.hid hic
  have HG := Lib.hid G
  have HS := Lib.hid hs
  have n2 : x.pos < 0 := h2
  clear hF hcs hic G hs h2 hx HI g0 g1 g2 g3 g4 hF1
  go_enter Tryz.func40, Tryz.ntmps40
  go_wp2_with (first
    | (go_at_call 70; refine (hfm _).mono ?_; rintro en w2 ⟨rfl, hb2⟩; go_must (obtain ⟨hbw, r1, r2⟩ := fine_prep _ _ _ _ _ _ _ hb2); have hz := r2.lt; have hz0 := r1.lt; have c0 := r1.cell 0; have c1 := r1.cell 1; have d0 := r2.cell 0; have d1 := r2.cell 1; have d2 := r2.cell 2; have d3 := r2.cell 3; have d4 := r2.cell 4; have HBW := Lib.hid hbw; have R1 := Lib.hid r1; have R2 := Lib.hid r2; clear hb2 hbw r1 r2))
  all_goals (go_ret; exact ⟨rfl, HBW.out.alloc (by omega) _⟩)

set_option maxRecDepth 20000 in
set_option maxHeartbeats 8000000 in
theorem fine_far (fs : List Fn) (A GA : Option Addr) (fc gl gc f k : Nat) (w : World) (o : Fn) (x : Ins) (hF : FnsAt w A fs) (G : GlobP w) (hf : f < fs.length) (ho : fs[f] = o) (hlen : fs.length ≤ 100000) (hk : k < o.code.length) (hx : o.code[k] = x) (hcl : o.code.length ≤ 200000) (hs : x.text.size ≤ 2000000)
    (h1 : (formOf x.op).word.toList.isEmpty = false) (h2 : 0 ≤ x.pos) (h3 : 60000 < x.pos) :
    Calls Tryz.prog 40 #[.agg #[.slice A fs.length fc, .slice GA gl gc], .int .i64 f, .int .i64 k] w fun e w' => e = .returned (.bool false) ∧ Below w.heap.size w w' := by
  obtain ⟨F, hF1⟩ : ∃ F, formOf x.op = F := ⟨_, rfl⟩
  have hfm := forms_as x.op F hF1
  rw [hF1] at h1
  have HFS := Lib.hid hF
  have HI := Lib.hid (show InsAt w o.CA o.code from hF.code o (ho ▸ List.getElem_mem hf))
  obtain ⟨b, off, rfl, hb, hcs⟩ := hF.at_ (by omega)
  obtain ⟨g0, g1, g2, g3, g4, g5⟩ := hcs f hf
  rw [ho] at g0 g1 g2 g3 g4 g5
  obtain ⟨bc, oc, hCA, hbc, hic⟩ := HI.out.at_ (by omega)
  rw [hCA] at g5
  obtain ⟨i0, i1, i2, i3, i4⟩ := hic k hk
  rw [hx] at i0 i1 i2 i3 i4
  have HIC := Lib.hid hic
  have HG := Lib.hid G
  have HS := Lib.hid hs
  have n2 : ¬ x.pos < 0 := by omega
  have n3 : 60000 < x.pos := h3
  clear hF hcs hic G hs h2 h3 hx HI g0 g1 g2 g3 g4 hF1
  go_enter Tryz.func40, Tryz.ntmps40
  go_wp2_with (first
    | (go_at_call 70; refine (hfm _).mono ?_; rintro en w2 ⟨rfl, hb2⟩; go_must (obtain ⟨hbw, r1, r2⟩ := fine_prep _ _ _ _ _ _ _ hb2); have hz := r2.lt; have hz0 := r1.lt; have c0 := r1.cell 0; have c1 := r1.cell 1; have d0 := r2.cell 0; have d1 := r2.cell 1; have d2 := r2.cell 2; have d3 := r2.cell 3; have d4 := r2.cell 4; have HBW := Lib.hid hbw; have R1 := Lib.hid r1; have R2 := Lib.hid r2; clear hb2 hbw r1 r2))
  all_goals (go_ret; exact ⟨rfl, HBW.out.alloc (by omega) _⟩)

set_option maxRecDepth 20000 in
set_option maxHeartbeats 8000000 in
theorem fine_num (fs : List Fn) (A GA : Option Addr) (fc gl gc f k : Nat) (w : World) (o : Fn) (x : Ins) (hF : FnsAt w A fs) (G : GlobP w) (hf : f < fs.length) (ho : fs[f] = o) (hlen : fs.length ≤ 100000) (hk : k < o.code.length) (hx : o.code[k] = x) (hcl : o.code.length ≤ 200000) (hs : x.text.size ≤ 2000000)
    (h1 : (formOf x.op).word.toList.isEmpty = false) (h2 : 0 ≤ x.pos) (h3 : x.pos ≤ 60000) (h4 : numberedB fs gl f x = false) :
    Calls Tryz.prog 40 #[.agg #[.slice A fs.length fc, .slice GA gl gc], .int .i64 f, .int .i64 k] w fun e w' => e = .returned (.bool false) ∧ Below w.heap.size w w' := by
  obtain ⟨F, hF1⟩ : ∃ F, formOf x.op = F := ⟨_, rfl⟩
  have hfm := forms_as x.op F hF1
  rw [hF1] at h1
  have HFS := Lib.hid hF
  have HI := Lib.hid (show InsAt w o.CA o.code from hF.code o (ho ▸ List.getElem_mem hf))
  obtain ⟨b, off, rfl, hb, hcs⟩ := hF.at_ (by omega)
  obtain ⟨g0, g1, g2, g3, g4, g5⟩ := hcs f hf
  rw [ho] at g0 g1 g2 g3 g4 g5
  obtain ⟨bc, oc, hCA, hbc, hic⟩ := HI.out.at_ (by omega)
  rw [hCA] at g5
  obtain ⟨i0, i1, i2, i3, i4⟩ := hic k hk
  rw [hx] at i0 i1 i2 i3 i4
  have HIC := Lib.hid hic
  have HG := Lib.hid G
  have HS := Lib.hid hs
  have HN := Lib.hid h4
  have n2 : ¬ x.pos < 0 := by omega
  have n3 : ¬ 60000 < x.pos := by omega
  clear hF hcs hic G hs h2 h3 h4 hx HI g0 g1 g2 g3 g4 hF1
  go_enter Tryz.func40, Tryz.ntmps40
  go_wp2_with (first
    | (go_at_call 70; refine (hfm _).mono ?_; rintro en w2 ⟨rfl, hb2⟩; go_must (obtain ⟨hbw, r1, r2⟩ := fine_prep _ _ _ _ _ _ _ hb2); have hz := r2.lt; have hz0 := r1.lt; have c0 := r1.cell 0; have c1 := r1.cell 1; have d0 := r2.cell 0; have d1 := r2.cell 1; have d2 := r2.cell 2; have d3 := r2.cell 3; have d4 := r2.cell 4; have HBW := Lib.hid hbw; have R1 := Lib.hid r1; have R2 := Lib.hid r2; clear hb2 hbw r1 r2)
    | (go_at_call 71; go_must (refine (numbered_walk fs _ GA fc gl gc f x _ (HFS.out.below (HBW.out.alloc (by omega) _)) hf hlen).mono ?_); rw [HN.out]; rintro en w3 ⟨rfl, hb3⟩; have r2 := R2.out.next hb3; have r1 := R1.out.next hb3; have hz3 := r2.lt; have hz03 := r1.lt; have e0 := r2.cell 0; have e1 := r2.cell 1; have e2 := r2.cell 2; have e3 := r2.cell 3; have e4 := r2.cell 4; have B3 := Lib.hid (below_next HBW.out (by omega) hb3); have R3 := Lib.hid r2; clear c0 c1 d0 d1 d2 d3 d4 hb3 r1 r2))
  all_goals (go_ret; exact ⟨rfl, B3.out⟩)

set_option maxRecDepth 20000 in
set_option maxHeartbeats 8000000 in
theorem fine_say (fs : List Fn) (A GA : Option Addr) (fc gl gc f k : Nat) (w : World) (o : Fn) (x : Ins) (hF : FnsAt w A fs) (G : GlobP w) (hf : f < fs.length) (ho : fs[f] = o) (hlen : fs.length ≤ 100000) (hk : k < o.code.length) (hx : o.code[k] = x) (hcl : o.code.length ≤ 200000) (hs : x.text.size ≤ 2000000)
    (h1 : (formOf x.op).word.toList.isEmpty = false) (h2 : 0 ≤ x.pos) (h3 : x.pos ≤ 60000) (h4 : numberedB fs gl f x = true) (h5 : saysB x = false) :
    Calls Tryz.prog 40 #[.agg #[.slice A fs.length fc, .slice GA gl gc], .int .i64 f, .int .i64 k] w fun e w' => e = .returned (.bool false) ∧ Below w.heap.size w w' := by
  obtain ⟨F, hF1⟩ : ∃ F, formOf x.op = F := ⟨_, rfl⟩
  have hfm := forms_as x.op F hF1
  rw [hF1] at h1
  have HFS := Lib.hid hF
  have HI := Lib.hid (show InsAt w o.CA o.code from hF.code o (ho ▸ List.getElem_mem hf))
  obtain ⟨b, off, rfl, hb, hcs⟩ := hF.at_ (by omega)
  obtain ⟨g0, g1, g2, g3, g4, g5⟩ := hcs f hf
  rw [ho] at g0 g1 g2 g3 g4 g5
  obtain ⟨bc, oc, hCA, hbc, hic⟩ := HI.out.at_ (by omega)
  rw [hCA] at g5
  obtain ⟨i0, i1, i2, i3, i4⟩ := hic k hk
  rw [hx] at i0 i1 i2 i3 i4
  have HIC := Lib.hid hic
  have HG := Lib.hid G
  have HS := Lib.hid hs
  have HN := Lib.hid h4
  have HY := Lib.hid h5
  have n2 : ¬ x.pos < 0 := by omega
  have n3 : ¬ 60000 < x.pos := by omega
  clear hF hcs hic G hs h2 h3 h4 h5 hx HI g0 g1 g2 g3 g4 hF1
  go_enter Tryz.func40, Tryz.ntmps40
  go_wp2_with (first
    | (go_at_call 70; refine (hfm _).mono ?_; rintro en w2 ⟨rfl, hb2⟩; go_must (obtain ⟨hbw, r1, r2⟩ := fine_prep _ _ _ _ _ _ _ hb2); have hz := r2.lt; have hz0 := r1.lt; have c0 := r1.cell 0; have c1 := r1.cell 1; have d0 := r2.cell 0; have d1 := r2.cell 1; have d2 := r2.cell 2; have d3 := r2.cell 3; have d4 := r2.cell 4; have HBW := Lib.hid hbw; have R1 := Lib.hid r1; have R2 := Lib.hid r2; clear hb2 hbw r1 r2)
    | (go_at_call 71; go_must (refine (numbered_walk fs _ GA fc gl gc f x _ (HFS.out.below (HBW.out.alloc (by omega) _)) hf hlen).mono ?_); rw [HN.out]; rintro en w3 ⟨rfl, hb3⟩; have r2 := R2.out.next hb3; have r1 := R1.out.next hb3; have hz3 := r2.lt; have hz03 := r1.lt; have e0 := r2.cell 0; have e1 := r2.cell 1; have e2 := r2.cell 2; have e3 := r2.cell 3; have e4 := r2.cell 4; have B3 := Lib.hid (below_next HBW.out (by omega) hb3); have R3 := Lib.hid r2; clear c0 c1 d0 d1 d2 d3 d4 hb3 r1 r2)
    | (go_at_call 72; go_must (refine (says_walk x _ HS.out (HG.out.below B3.out)).mono ?_); rw [HY.out]; rintro en w4 ⟨rfl, hb4⟩; have B4 := Lib.hid (below_more B3.out hb4 B3.out.size)))
  all_goals (go_ret; exact ⟨rfl, B4.out⟩)

theorem jumps_bound {fs : List Fn} {gl f : Nat} {x : Ins} (h : numberedB fs gl f x = true) (hj : jumps x.op) : 0 ≤ x.a ∧ x.a < (fs.getD f default).code.length := by
  have h10 : (formOf x.op).a = 10 := of_decide_eq_true ((goes_form x.op).trans (decide_eq_true hj))
  unfold numberedB at h
  dsimp only at h
  rw [h10] at h
  have h2 : (decide (0 ≤ x.a) && decide (x.a < (fs.getD f default).code.length)) = true := h
  rw [Bool.and_eq_true] at h2
  exact ⟨of_decide_eq_true h2.1, of_decide_eq_true h2.2⟩
/-- The contract of code.fine. -/
theorem fine_walk (fs : List Fn) (A GA : Option Addr) (fc gl gc f k : Nat) (w : World) (hF : FnsAt w A fs) (G : GlobP w) (hf : f < fs.length) (hlen : fs.length ≤ 100000) (hk : k < fs[f].code.length) (hcl : fs[f].code.length ≤ 200000) (hs : fs[f].code[k].text.size ≤ 2000000) :
    Calls Tryz.prog 40 #[.agg #[.slice A fs.length fc, .slice GA gl gc], .int .i64 f, .int .i64 k] w fun e w' => e = .returned (.bool (fineB fs gl f k)) ∧ Below w.heap.size w w' := by
  have e1 : fs.getD f default = fs[f] := by rw [List.getD_eq_getElem?_getD, List.getElem?_eq_getElem hf, Option.getD_some]
  have e2 : fs[f].code.getD k default = fs[f].code[k] := by rw [List.getD_eq_getElem?_getD, List.getElem?_eq_getElem hk, Option.getD_some]
  unfold fineB
  dsimp only
  rw [e1, e2]
  cases h1 : (formOf fs[f].code[k].op).word.toList.isEmpty
  · by_cases h2 : 0 ≤ fs[f].code[k].pos
    · by_cases h3 : fs[f].code[k].pos ≤ 60000
      · cases h4 : numberedB fs gl f fs[f].code[k]
        · simpa only [Bool.and_false, Bool.false_and] using fine_num fs A GA fc gl gc f k w fs[f] fs[f].code[k] hF G hf rfl hlen hk rfl hcl hs h1 h2 h3 h4
        · cases h5 : saysB fs[f].code[k]
          · simpa only [Bool.and_false, Bool.false_and] using fine_say fs A GA fc gl gc f k w fs[f] fs[f].code[k] hF G hf rfl hlen hk rfl hcl hs h1 h2 h3 h4 h5
          · rw [decide_eq_true h2, decide_eq_true h3, Bool.not_false, Bool.true_and, Bool.true_and, Bool.true_and, Bool.true_and]
            exact fine_good fs A GA fc gl gc f k w fs[f] fs[f].code[k] hF G hf rfl hlen hk rfl hcl hs h1 h2 h3 h4 h5 (fun hj => e1 ▸ jumps_bound h4 hj) _ rfl
      · rw [decide_eq_false h3]
        simpa only [Bool.and_false, Bool.false_and] using fine_far fs A GA fc gl gc f k w fs[f] fs[f].code[k] hF G hf rfl hlen hk rfl hcl hs h1 h2 (by omega)
    · rw [decide_eq_false h2]
      simpa only [Bool.and_false, Bool.false_and] using fine_neg fs A GA fc gl gc f k w fs[f] fs[f].code[k] hF G hf rfl hlen hk rfl hcl hs h1 (by omega)
  · simpa only [Bool.not_true, Bool.and_false, Bool.false_and] using fine_word fs A GA fc gl gc f k w fs[f] fs[f].code[k] hF G hf rfl hlen hk rfl hcl hs h1
end Go.Proofs.YtmecmlpoallpcaaGreatDoor

/- code.wrong: a fault is made, never nil. -/
namespace Go.Proofs.YtmecmlpoallpcaaGreatDoor
set_option linter.unusedVariables false
open Go.RowKit Go.Proofs.PeepPlain

/-- A fault lies at an address. -/
def Fault (c f : Int) (e : Ending) (w w' : World) : Prop := ∃ g nm, w.heap.size ≤ g ∧ e = .returned (.pointer (some ⟨g, 0, none⟩)) ∧ Row w' g 30 [.int .i64 c, .int .i64 f, .string nm]
theorem wrong_low (c f : Int) (w : World) (i : Int) (hi : ¬ 0 ≤ i) :
    Calls Tryz.prog 38 #[.int .i64 c, .int .i64 f, .int .i64 i] w fun e w' => Fault c f e w w' ∧ Below w.heap.size w w' := by
  go_enter Tryz.func38, Tryz.ntmps38
  go_wp2
  go_ret
  exact ⟨⟨_, _, Nat.le_refl _, rfl, Row.made w 30 [.int .i64 c, .int .i64 f, .string ⟨#[]⟩]⟩, below1 w _⟩
theorem wrong_name (c f : Int) (w : World) (i : Int) (hi : 0 ≤ i) (hi2 : i ≤ 9223372036854775807) (G : GlobP w) :
    Calls Tryz.prog 38 #[.int .i64 c, .int .i64 f, .int .i64 i] w fun e w' => Fault c f e w w' ∧ Below w.heap.size w w' := by
  have HI := Lib.hid (show ∀ w1, Below w.heap.size w w1 → Calls Tryz.prog 66 #[.int .i64 i] w1 fun e w' => e = .returned (.string ⟨(Lib.itoa i).toArray⟩) ∧ Below w1.heap.size w1 w' from fun w1 hb1 => (Tryz.strconv_Itoa i (by omega) hi2 w1 (G.below hb1).pow).mono fun e w' ⟨he, q, os, hw⟩ => ⟨he, hw ▸ Lib.below_grow _ w1 (Nat.le_refl _) q os⟩)
  generalize (⟨(Lib.itoa i).toArray⟩ : ByteArray) = nm at HI
  clear G hi2
  go_enter Tryz.func38, Tryz.ntmps38
  go_wp2_with (go_at_call 66; go_must (refine (HI.out _ (below1 w _)).mono ?_); rintro en w2 ⟨rfl, hb2⟩; have r2 := (Row.made w 30 [.int .i64 c, .int .i64 f, .string ⟨#[]⟩]).below hb2 (Row.made w 30 [.int .i64 c, .int .i64 f, .string ⟨#[]⟩]).lt; have c2 := r2.cell 2; have f2 := r2.free 2; have hz := r2.lt; have R2 := Lib.hid r2; have B2 := Lib.hid (below_more (below1 w _) hb2 (below1 w _).size); clear r2 hb2)
  go_ret
  exact ⟨⟨_, nm, Nat.le_refl _, rfl, R2.out.set 2 _⟩, B2.out.setCell (Nat.le_refl _) _⟩
end Go.Proofs.YtmecmlpoallpcaaGreatDoor

/- code.many: is a program small enough? -/
namespace Go.Proofs.YtmecmlpoallpcaaGreatDoor
set_option linter.unusedVariables false
open Go.RowKit Go.Proofs.PeepPlain

/-- How many instructions the first k functions have together. -/
def sumTo (fs : List Fn) (k : Nat) : Nat := ((fs.take k).map fun f => f.code.length).sum
theorem sumTo_succ (fs : List Fn) (k : Nat) (h : k < fs.length) : sumTo fs (k + 1) = sumTo fs k + fs[k].code.length := by
  unfold sumTo
  rw [List.take_add_one, List.getElem?_eq_getElem h, List.map_append, List.sum_append]
  rfl
theorem sumTo_le (fs : List Fn) : ∀ (j k : Nat), sumTo fs j ≤ sumTo fs (j + k)
  | j, 0 => Nat.le_refl _
  | j, k + 1 => by
    refine Nat.le_trans (sumTo_le fs j k) ?_
    by_cases h : j + k < fs.length
    · rw [← Nat.add_assoc, sumTo_succ fs (j + k) h]; omega
    · have : sumTo fs (j + (k + 1)) = sumTo fs (j + k) := by unfold sumTo; rw [List.take_of_length_le (by omega), List.take_of_length_le (by omega)]
      omega
theorem sumTo_all (fs : List Fn) {k : Nat} (h : k ≤ fs.length) : sumTo fs k ≤ sumTo fs fs.length := by
  have := sumTo_le fs k (fs.length - k)
  rwa [Nat.add_sub_cancel' h] at this
/-- Is a program small enough? -/
def manyB (fs : List Fn) (gl : Nat) : Bool := decide (1 ≤ fs.length) && decide (fs.length ≤ 20000) && decide (gl ≤ 20000) && decide (sumTo fs fs.length ≤ 60000) && fs.all fun f => decide (f.slots ≤ 20000) && decide (f.taken.length ≤ 20000)

theorem many_bad {fs : List Fn} {gl : Nat} (h : fs.length < 1 ∨ 20000 < fs.length ∨ 20000 < gl ∨ 60000 < sumTo fs fs.length) : manyB fs gl = false := by
  unfold manyB
  rcases h with h | h | h | h
  · rw [decide_eq_false (show ¬ 1 ≤ fs.length by omega)]; simp only [Bool.false_and]
  · rw [decide_eq_false (show ¬ fs.length ≤ 20000 by omega)]; simp only [Bool.false_and, Bool.and_false]
  · rw [decide_eq_false (show ¬ gl ≤ 20000 by omega)]; simp only [Bool.false_and, Bool.and_false]
  · rw [decide_eq_false (show ¬ sumTo fs fs.length ≤ 60000 by omega)]; simp only [Bool.false_and, Bool.and_false]
def okB (f : Fn) : Bool := decide (f.slots ≤ 20000) && decide (f.taken.length ≤ 20000)
theorem many_good {fs : List Fn} {gl : Nat} (h1 : ¬ fs.length < 1) (h2 : ¬ 20000 < fs.length) (h3 : ¬ 20000 < gl) (h4 : ¬ 60000 < sumTo fs fs.length) : manyB fs gl = fs.all okB := by
  unfold manyB
  rw [decide_eq_true (show 1 ≤ fs.length by omega), decide_eq_true (show fs.length ≤ 20000 by omega), decide_eq_true (show gl ≤ 20000 by omega), decide_eq_true (show sumTo fs fs.length ≤ 60000 by omega)]
  rfl
theorem all_bad {fs : List Fn} {k : Nat} (h : k < fs.length) (hk : okB fs[k] = false) : fs.all okB = false := by
  cases e : fs.all okB with
  | false => rfl
  | true => rw [List.all_eq_true] at e; have := e _ (List.getElem_mem h); rw [hk] at this; cases this
theorem all_good {fs : List Fn} (h : ∀ j, (hj : j < fs.length) → okB fs[j] = true) : fs.all okB = true := by
  rw [List.all_eq_true]
  intro x hx
  obtain ⟨j, hj, rfl⟩ := List.getElem_of_mem hx
  exact h j hj
/-- What code.many answers: nil where all is well, a fault otherwise. -/
def ManyPost (b : Bool) (w : World) (e : Ending) (w' : World) : Prop := (if b then e = .returned (.pointer none) else ∃ c f, Fault c f e w w') ∧ Below w.heap.size w w'
theorem many_fault {b : Bool} (h : b = false) {w w2 w' : World} {e : Ending} {c f : Int} (hb : Below w.heap.size w w2) (hf : Fault c f e w2 w') (hb2 : Below w2.heap.size w2 w') : ManyPost b w e w' := by
  subst h
  obtain ⟨g, nm, h1, h2, h3⟩ := hf
  exact ⟨⟨c, f, g, nm, Nat.le_trans hb.size h1, h2, h3⟩, below_more hb hb2 hb.size⟩

set_option maxRecDepth 20000 in
theorem many_walk (fs : List Fn) (A GA : Option Addr) (fc gl gc : Nat) (w : World) (hF : FnsAt w A fs) (hlen : fs.length ≤ 2000000) (htot : sumTo fs fs.length ≤ 2000000) :
    Calls Tryz.prog 36 #[.agg #[.slice A fs.length fc, .slice GA gl gc]] w (ManyPost (manyB fs gl) w) := by
  have HF0 := Lib.hid hF
  have HT := Lib.hid htot
  clear hF htot
  go_enter Tryz.func36, Tryz.ntmps36
  go_wp2_with fail
  go_loopw [3, 5, 11] (fun zs z v wr => ∃ k : Nat, v = .int .i64 k ∧ zs = .int .i64 (sumTo fs k) ∧ k ≤ fs.length ∧ Hid (Row wr w.heap.size 25 [.slice A fs.length fc, .slice GA gl gc]) ∧ Hid (FnsAt wr A fs) ∧ Hid (Below w.heap.size w wr)) (fun _ _ v _ => fs.length - (intOf v).toNat)
  case atStart => exact ⟨0, rfl, rfl, Nat.zero_le _, Row.made _ _ _, HF0.out.below (below1 w _), below1 w _⟩
  case round =>
    clear HF0
    rename World => w2
    obtain ⟨k, rfl, rfl, hk, HR, HF, HB⟩ := hrel
    have g0 := HR.out.cell 0
    have g1 := HR.out.cell 1
    have hz := HR.out.lt
    by_cases hlt : k < fs.length
    · obtain ⟨b, off, rfl, hbl, hc⟩ := HF.out.at_ (by omega)
      obtain ⟨c0, c1, c2, c3, c4, c5⟩ := hc k hlt
      have hi : (0 : Int) ≤ (k : Int) ∧ (k : Int) < (fs.length : Int) := by omega
      have hs := sumTo_succ fs k hlt
      have hs2 := sumTo_all fs (show k + 1 ≤ fs.length by omega)
      have hw : wrap64 ((sumTo fs k : Int) + (fs[k].code.length : Int)) = (sumTo fs (k + 1) : Int) := by have := HT.out; unfold wrap64; omega
      clear hc hs hs2
      generalize fs[k] = o at c0 c1 c2 c3 c4 c5 hw
      go_wp2_with fail
      go_roundw
      case rel => exact ⟨k + 1, by go_num, by go_num, by omega, HR.out.alloc _, HF.out.below (below1 w2 _), HB.out.alloc HB.out.size _⟩
      case measure => simp [intOf]; omega
    · obtain rfl : k = fs.length := by omega
      by_cases h1 : (fs.length : Int) < 1
      · have HBAD := Lib.hid (many_bad (fs := fs) (gl := gl) (.inl (by omega)))
        go_wp2_with (go_at_call 38; refine (wrong_low 22 _ _ (-1) (by omega)).mono ?_; rintro en w3 ⟨⟨g, nm, hg, rfl, hr⟩, hb3⟩; have HR3 := Lib.hid hr; have HB3 := Lib.hid hb3; clear hr hb3)
        go_ret
        exact many_fault (HBAD.out) HB.out ⟨_, _, hg, rfl, HR3.out⟩ HB3.out
      ·
        by_cases h2 : 20000 < (fs.length : Int)
        · have HBAD := Lib.hid (many_bad (fs := fs) (gl := gl) (.inr (.inl (by omega))))
          go_wp2_with (go_at_call 38; refine (wrong_low 22 _ _ (-1) (by omega)).mono ?_; rintro en w3 ⟨⟨g, nm, hg, rfl, hr⟩, hb3⟩; have HR3 := Lib.hid hr; have HB3 := Lib.hid hb3; clear hr hb3)
          go_ret
          exact many_fault (HBAD.out) HB.out ⟨_, _, hg, rfl, HR3.out⟩ HB3.out
        ·
          by_cases h3 : 20000 < (gl : Int)
          · have HBAD := Lib.hid (many_bad (fs := fs) (gl := gl) (.inr (.inr (.inl (by omega)))))
            go_wp2_with (go_at_call 38; refine (wrong_low 22 _ _ (-1) (by omega)).mono ?_; rintro en w3 ⟨⟨g, nm, hg, rfl, hr⟩, hb3⟩; have HR3 := Lib.hid hr; have HB3 := Lib.hid hb3; clear hr hb3)
            go_ret
            exact many_fault (HBAD.out) HB.out ⟨_, _, hg, rfl, HR3.out⟩ HB3.out
          ·
            by_cases h4 : 60000 < (sumTo fs fs.length : Int)
            · have HBAD := Lib.hid (many_bad (fs := fs) (gl := gl) (.inr (.inr (.inr (by omega)))))
              go_wp2_with (go_at_call 38; refine (wrong_low 22 _ _ (-1) (by omega)).mono ?_; rintro en w3 ⟨⟨g, nm, hg, rfl, hr⟩, hb3⟩; have HR3 := Lib.hid hr; have HB3 := Lib.hid hb3; clear hr hb3)
              go_ret
              exact many_fault (HBAD.out) HB.out ⟨_, _, hg, rfl, HR3.out⟩ HB3.out
            ·
              have HGOOD := Lib.hid (many_good (fs := fs) (gl := gl) (by omega) (by omega) (by omega) (by omega))
              go_wp2_with fail
              clear hlt
              go_loopw [2, 6, 7, 45] (fun z2 z6 z7 v wr => ∃ k : Nat, v = .int .i64 k ∧ z2 = .pointer none ∧ k ≤ fs.length ∧ Hid (∀ j, (hj : j < fs.length) → j < k → okB fs[j] = true) ∧ Hid (FnsAt wr A fs) ∧ Hid (Below w.heap.size w wr)) (fun _ _ _ v _ => fs.length - (intOf v).toNat)
              case atStart => exact ⟨0, rfl, rfl, Nat.zero_le _, Lib.hid (fun j _ h => by omega), HF, HB⟩
              case round =>
                clear HF HB HR g0 g1 hz
                rename World => w4
                obtain ⟨k, rfl, rfl, hk, HOK, HF, HB⟩ := hrel
                by_cases hlt : k < fs.length
                · obtain ⟨b, off, rfl, hbl, hc⟩ := HF.out.at_ (by omega)
                  obtain ⟨c0, c1, c2, c3, c4, c5⟩ := hc k hlt
                  have hi : (0 : Int) ≤ (k : Int) ∧ (k : Int) < (fs.length : Int) := by omega
                  clear hc
                  have hokB : okB fs[k] = (decide (fs[k].slots ≤ 20000) && decide (fs[k].taken.length ≤ 20000)) := rfl
                  by_cases ha : 20000 < fs[k].slots
                  · have HBAD := Lib.hid (all_bad hlt (by rw [hokB, decide_eq_false (show ¬ fs[k].slots ≤ 20000 by omega)]; rfl))
                    clear hokB
                    generalize fs[k] = o at c0 c1 c2 c3 c4 c5 ha
                    go_wp2_with (go_at_call 38; refine (wrong_low 22 _ _ (-1) (by omega)).mono ?_; rintro en w3 ⟨⟨g, nm, hg, rfl, hr⟩, hb3⟩; have HR3 := Lib.hid hr; have HB3 := Lib.hid hb3; clear hr hb3)
                    go_ret
                    exact many_fault (HGOOD.out.trans HBAD.out) (HB.out.alloc HB.out.size _) ⟨_, _, hg, rfl, HR3.out⟩ HB3.out
                  · by_cases hb : 20000 < (fs[k].taken.length : Int)
                    · have HBAD := Lib.hid (all_bad hlt (by rw [hokB, decide_eq_false (show ¬ fs[k].taken.length ≤ 20000 by omega)]; simp only [Bool.and_false]))
                      clear hokB
                      generalize fs[k] = o at c0 c1 c2 c3 c4 c5 ha hb
                      go_wp2_with (go_at_call 38; refine (wrong_low 22 _ _ (-1) (by omega)).mono ?_; rintro en w3 ⟨⟨g, nm, hg, rfl, hr⟩, hb3⟩; have HR3 := Lib.hid hr; have HB3 := Lib.hid hb3; clear hr hb3)
                      go_ret
                      exact many_fault (HGOOD.out.trans HBAD.out) (HB.out.alloc HB.out.size _) ⟨_, _, hg, rfl, HR3.out⟩ HB3.out
                    · have HK := Lib.hid (show ∀ j, (hj : j < fs.length) → j < k + 1 → okB fs[j] = true from fun j hj hjk => by
                        by_cases e : j = k
                        · subst e; rw [hokB, decide_eq_true (show fs[j].slots ≤ 20000 by omega), decide_eq_true (show fs[j].taken.length ≤ 20000 by omega)]; rfl
                        · exact HOK.out j hj (by omega))
                      clear hokB
                      generalize fs[k] = o at c0 c1 c2 c3 c4 c5 ha hb
                      go_wp2_with fail
                      go_roundw
                      case rel => exact ⟨k + 1, by go_num, rfl, by omega, HK, HF.out.below (below1 w4 _), HB.out.alloc HB.out.size _⟩
                      case measure => simp [intOf]; omega
                · obtain rfl : k = fs.length := by omega
                  have HALL := Lib.hid (all_good (fs := fs) (fun j hj => HOK.out j hj hj))
                  go_wp2_with fail
                  go_ret
                  exact ⟨by rw [HGOOD.out, HALL.out]; rfl, HB.out⟩
end Go.Proofs.YtmecmlpoallpcaaGreatDoor

/- code.headed's own function (69), slices.IndexFunc (103) and ContainsFunc (68) with it. -/
namespace Go.Proofs.YtmecmlpoallpcaaGreatDoor
set_option linter.unusedVariables false
open Go.RowKit Go.Proofs.PeepPlain

/-- Does a taken slot lie outside the function around? -/
def outB (slots : Int) (tn : Nat) (t : Int) : Bool := decide (slots ≤ t) || decide (t < -(tn : Int))
theorem out_walk (t slots : Int) (TA : Option Addr) (tn tc g : Nat) (w : World) (c2 : w.cell? ⟨g, 2, none⟩ = some (.int .i64 slots)) (c3 : w.cell? ⟨g, 3, none⟩ = some (.slice TA tn tc)) (htn : tn ≤ 2000000) :
    Calls Tryz.prog 69 #[.int .i64 t, .pointer (some ⟨g, 0, none⟩)] w fun e w' => e = .returned (.bool (outB slots tn t)) ∧ w' = w := by
  have hneg : wrap64 (-(tn : Int)) = -(tn : Int) := by unfold wrap64; omega
  unfold outB
  by_cases h1 : slots ≤ t
  · rw [decide_eq_true h1, Bool.true_or]
    go_enter Tryz.func69, Tryz.ntmps69
    go_wp2_with fail
    go_ret
    exact ⟨rfl, rfl⟩
  · rw [decide_eq_false h1, Bool.false_or]
    go_enter Tryz.func69, Tryz.ntmps69
    go_wp2_with fail
    go_ret
    exact ⟨rfl, rfl⟩
set_option maxHeartbeats 2000000 in
theorem index_walk (l : List Int) (A : Option Addr) (c : Nat) (slots : Int) (TA : Option Addr) (tn tc g : Nat) (w : World) (hA : Lies w A (l.map (Value.int .i64))) (hl : l.length ≤ 2000000) (c2 : w.cell? ⟨g, 2, none⟩ = some (.int .i64 slots)) (c3 : w.cell? ⟨g, 3, none⟩ = some (.slice TA tn tc)) (htn : tn ≤ 2000000) :
    Calls Tryz.prog 103 #[.slice A l.length c, .func (Fn.func 69) #[] #[.pointer (some ⟨g, 0, none⟩)]] w fun e w' => (∃ r : Int, e = .returned (.int .i64 r) ∧ decide (0 ≤ r) = l.any (outB slots tn)) ∧ w' = w := by
  have HO := Lib.hid (fun t => out_walk t slots TA tn tc g w c2 c3 htn)
  have HA := Lib.hid hA
  clear hA c2 c3 htn
  go_enter Tryz.func103, Tryz.ntmps103
  go_wp2_with fail
  go_loopw [4, 5, 8] (fun z4 z5 v wr => ∃ k : Nat, wr = w ∧ v = .int .i64 k ∧ k ≤ l.length ∧ Hid (∀ j, (hj : j < l.length) → j < k → outB slots tn l[j] = false)) (fun _ _ v _ => l.length - (intOf v).toNat)
  case atStart => exact ⟨0, rfl, rfl, Nat.zero_le _, Lib.hid (fun j _ h => by omega)⟩
  case round =>
    obtain ⟨k, rfl, rfl, hk, HN⟩ := hrel
    by_cases hlt : k < l.length
    · obtain ⟨b, off, rfl, hb, hc⟩ := HA.out (by rw [List.length_map]; omega)
      have ck := hc k (.int .i64 l[k]) (by rw [List.getElem?_map, List.getElem?_eq_getElem hlt]; rfl)
      clear hc
      cases ho : outB slots tn l[k]
      · have HK := Lib.hid (show ∀ j, (hj : j < l.length) → j < k + 1 → outB slots tn l[j] = false from fun j hj hjk => by
          by_cases e : j = k
          · subst e; exact ho
          · exact HN.out j hj (by omega))
        have HC := HO.out l[k]
        rw [ho] at HC
        generalize l[k] = t at ck HC
        clear ho
        go_wp2_with (go_at_call 69; refine HC.mono ?_; rintro en w3 ⟨rfl, rfl⟩)
        go_roundw
        case rel => exact ⟨k + 1, trivial, by go_num, by omega, HK⟩
        case measure => simp [intOf]; omega
      · have HANY := Lib.hid (show l.any (outB slots tn) = true from List.any_eq_true.2 ⟨l[k], List.getElem_mem hlt, ho⟩)
        have HC := HO.out l[k]
        rw [ho] at HC
        generalize l[k] = t at ck HC
        clear ho
        go_wp2_with (go_at_call 69; refine HC.mono ?_; rintro en w3 ⟨rfl, rfl⟩)
        go_ret
        exact ⟨⟨_, rfl, by rw [HANY.out]; exact decide_eq_true (by omega)⟩, rfl⟩
    · obtain rfl : k = l.length := by omega
      have HANY := Lib.hid (show l.any (outB slots tn) = false from by
        rw [List.any_eq_false]
        intro x hx
        obtain ⟨j, hj, rfl⟩ := List.getElem_of_mem hx
        rw [HN.out j hj hj]
        exact Bool.false_ne_true)
      go_wp2_with fail
      go_ret
      exact ⟨⟨_, rfl, by rw [HANY.out]; rfl⟩, rfl⟩
theorem contains_walk (l : List Int) (A : Option Addr) (c : Nat) (slots : Int) (TA : Option Addr) (tn tc g : Nat) (w : World) (hA : Lies w A (l.map (Value.int .i64))) (hl : l.length ≤ 2000000) (c2 : w.cell? ⟨g, 2, none⟩ = some (.int .i64 slots)) (c3 : w.cell? ⟨g, 3, none⟩ = some (.slice TA tn tc)) (htn : tn ≤ 2000000) :
    Calls Tryz.prog 68 #[.slice A l.length c, .func (Fn.func 69) #[] #[.pointer (some ⟨g, 0, none⟩)]] w fun e w' => e = .returned (.bool (l.any (outB slots tn))) ∧ w' = w := by
  have hx := index_walk l A c slots TA tn tc g w hA hl c2 c3 htn
  clear hA c2 c3 htn hl
  generalize l.any (outB slots tn) = b at hx
  go_enter Tryz.func68, Tryz.ntmps68
  go_wp2_with (go_at_call 103; refine hx.mono ?_)
  rintro en w2 ⟨⟨r, rfl, hr⟩, rfl⟩
  go_wp2
  go_ret
  exact ⟨ret_bool rfl, rfl⟩
end Go.Proofs.YtmecmlpoallpcaaGreatDoor

/- code.globals: are the globals' names names, each once? -/
namespace Go.Proofs.YtmecmlpoallpcaaGreatDoor
set_option linter.unusedVariables false
open Go.RowKit Go.Proofs.PeepPlain

def freshG (gs : List ByteArray) (j : Nat) : Bool := namedB (gs.getD j ByteArray.empty) && decide (cnt (gs.getD j ByteArray.empty) (gs.take j) = 0)
/-- Are the globals' names names, each once? -/
def globalsB (gs : List ByteArray) : Bool := (List.range gs.length).all (freshG gs)
theorem globals_no {gs : List ByteArray} {k : Nat} (hk : k < gs.length) (h : freshG gs k = false) : globalsB gs = false := by
  cases e : globalsB gs with
  | false => rfl
  | true => unfold globalsB at e; rw [List.all_eq_true] at e; have := e k (List.mem_range.2 hk); rw [h] at this; cases this
theorem globals_yes {gs : List ByteArray} (h : ∀ j, j < gs.length → freshG gs j = true) : globalsB gs = true := by
  unfold globalsB
  rw [List.all_eq_true]
  exact fun j hj => h j (List.mem_range.1 hj)
set_option maxRecDepth 20000 in
set_option maxHeartbeats 2000000 in
theorem globals_walk (gs : List ByteArray) (A : Option Addr) (c : Nat) (w : World) (hA : Lies w A (gs.map Value.string)) (hl : gs.length ≤ 2000000) (hs : ∀ j, (gs.getD j ByteArray.empty).size ≤ 2000000) (G : GlobP w) :
    Calls Tryz.prog 37 #[.slice A gs.length c] w fun e w' => e = .returned (.bool (globalsB gs)) ∧ Below w.heap.size w w' := by
  have HA0 := Lib.hid hA
  have HG0 := Lib.hid G
  have HS := Lib.hid hs
  have hmk := make51
  clear hA G hs
  go_enter Tryz.func37, Tryz.ntmps37
  go_wp2_with fail
  go_loopw [2, 5, 9] (fun z2 z5 v wr => ∃ k : Nat, v = .int .i64 k ∧ z2 = .bool false ∧ k ≤ gs.length ∧ Hid (CountM wr w.heap.size (gs.take k)) ∧ Hid (∀ j, j < k → freshG gs j = true) ∧ Hid (Lies wr A (gs.map Value.string)) ∧ Hid (GlobP wr) ∧ Hid (Below w.heap.size w wr)) (fun _ _ v _ => gs.length - (intOf v).toNat)
  case atStart => exact ⟨0, rfl, rfl, Nat.zero_le _, Lib.hid (count_made w), Lib.hid (fun j h => by omega), Lib.hid (HA0.out.below (below1 w _) rfl), Lib.hid (HG0.out.below (below1 w _)), below1 w _⟩
  case round =>
    clear hmk
    rename World => w3
    obtain ⟨k, rfl, rfl, hk, HC, HFA, HA, HG, HB⟩ := hrel
    by_cases hlt : k < gs.length
    · have hi : (0 : Int) ≤ (k : Int) ∧ (k : Int) < (gs.length : Int) := by omega
      obtain ⟨X, hX⟩ : ∃ X, gs.getD k ByteArray.empty = X := ⟨_, rfl⟩
      obtain ⟨b, off, rfl, hb, hc⟩ := HA.out (by rw [List.length_map]; omega)
      have ck := hc k (.string X) (by rw [List.getElem?_map, ← hX, List.getD_eq_getElem?_getD, List.getElem?_eq_getElem hlt]; rfl)
      have HXS : Hid (X.size ≤ 2000000) := Lib.hid (hX ▸ HS.out k)
      have HXE := Lib.hid hX
      have htk : gs.take (k + 1) = gs.take k ++ [X] := by rw [List.take_add_one, ← hX, List.getD_eq_getElem?_getD, List.getElem?_eq_getElem hlt]; rfl
      have HTK := Lib.hid htk
      obtain ⟨D, hD⟩ : ∃ D, cnt X (gs.take k) = D := ⟨_, rfl⟩
      have hDl : D ≤ 2000000 := by rw [← hD]; have := cnt_le X (gs.take k); rw [List.length_take] at this; omega
      have HD := Lib.hid hD
      have hlk := count_look HC.out HXS.out
      obtain ⟨w4, hput, hc4, hgr⟩ := count_put HC.out (by rw [List.length_take]; omega) HXS.out
      rw [hD] at hlk hput
      have hwr : wrap64 ((D : Int) + 1) = (D : Int) + 1 := by unfold wrap64; omega
      have B4 : Hid (Below w.heap.size w w4) := Lib.hid (HB.out.grown hgr HB.out.size (fun k h => by injection h with h; omega))
      have HC4 : Hid (CountM w4 w.heap.size (gs.take (k + 1))) := Lib.hid (htk ▸ hc4)
      have HLK4 : Hid (cnt X (gs.take (k + 1)) = D + 1) := Lib.hid (by rw [htk, cnt_snoc, hD, if_pos rfl])
      have HG4 := Lib.hid (HG0.out.below B4.out)
      clear hc hX htk hD hc4 hgr hDl
      cases hnb : namedB X
      · have HNO := Lib.hid (globals_no (gs := gs) hlt (by unfold freshG; rw [HXE.out, hnb]; rfl))
        have HNB := Lib.hid hnb
        clear hnb
        go_wp2_with (go_at_call 65; refine (named_any X _ HXS.out HG4.out).mono ?_; rw [HNB.out]; rintro en w5 ⟨rfl, hb5⟩; have B5 := Lib.hid (below_more B4.out hb5 B4.out.size); clear hb5)
        go_ret
        exact ⟨ret_bool HNO.out, B5.out⟩
      · have HNB := Lib.hid hnb
        by_cases hd : D = 0
        · have HK := Lib.hid (show ∀ j, j < k + 1 → freshG gs j = true from fun j hj => by
            by_cases e : j = k
            · subst e; unfold freshG; rw [HXE.out, hnb, HD.out, hd]; rfl
            · exact HFA.out j (by omega))
          have hd1 : ¬ (1 : Int) < ((D + 1 : Nat) : Int) := by omega
          clear hnb hd
          go_wp2_with (go_at_call 65; refine (named_any X _ HXS.out HG4.out).mono ?_; rw [HNB.out]; rintro en w5 ⟨rfl, hb5⟩; have B5 := Lib.hid (below_more B4.out hb5 B4.out.size); have C5 := Lib.hid (HC4.out.below hb5 HC4.out.lt); have hl5 := count_look C5.out HXS.out; rw [HLK4.out] at hl5; clear hb5)
          go_roundw
          case rel => exact ⟨k + 1, by go_num, rfl, by omega, C5, HK, HA0.out.below B5.out rfl, HG0.out.below B5.out, B5.out⟩
          case measure => simp [intOf]; omega
        · have HNO := Lib.hid (globals_no (gs := gs) hlt (by unfold freshG; rw [HXE.out, hnb, HD.out, decide_eq_false hd]; rfl))
          have hd1 : (1 : Int) < ((D + 1 : Nat) : Int) := by omega
          clear hnb
          go_wp2_with (go_at_call 65; refine (named_any X _ HXS.out HG4.out).mono ?_; rw [HNB.out]; rintro en w5 ⟨rfl, hb5⟩; have B5 := Lib.hid (below_more B4.out hb5 B4.out.size); have C5 := Lib.hid (HC4.out.below hb5 HC4.out.lt); have hl5 := count_look C5.out HXS.out; rw [HLK4.out] at hl5; clear hb5)
          go_ret
          exact ⟨ret_bool HNO.out, B5.out⟩
    · obtain rfl : k = gs.length := by omega
      have HYES := Lib.hid (globals_yes HFA.out)
      go_wp2_with fail
      go_ret
      exact ⟨ret_bool HYES.out, HB.out⟩
end Go.Proofs.YtmecmlpoallpcaaGreatDoor
