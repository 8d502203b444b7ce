/- Texts of this proof, put together: Says, Progs. -/
import Derived.Test.YtmecmlpoallpcaaGreatDoorM10
import Derived.Test.YtmecmlpoallpcaaGreatDoorM14
set_option linter.unusedSimpArgs false
/- code.says: does an instruction's text say what its operation asks? (Printed by gen_says.py.) -/
namespace Go.Proofs.YtmecmlpoallpcaaGreatDoor
set_option linter.unusedVariables false
open Go.RowKit Go.Proofs.PeepPlain

def unaryL : ByteArray := ⟨#[45, 32, 33, 32, 94, 32, 42, 32, 43, 43, 32, 45, 45]⟩
def binaryL : ByteArray := ⟨#[43, 32, 45, 32, 42, 32, 47, 32, 37, 32, 38, 32, 124, 32, 94, 32, 60, 60, 32, 62, 62, 32, 61, 61, 32, 33, 61, 32, 60, 32, 60, 61, 32, 62, 32, 62, 61]⟩
def truthL : ByteArray := ⟨#[38, 38, 32, 124, 124]⟩
def builtL : ByteArray := ⟨#[97, 112, 112, 101, 110, 100, 32, 99, 97, 112, 32, 99, 111, 112, 121, 32, 100, 101, 108, 101, 116, 101, 32, 108, 101, 110, 32, 109, 97, 107, 101, 32, 112, 97, 110, 105, 99, 32, 112, 114, 105, 110, 116, 32, 114, 101, 99, 111, 118, 101, 114, 32, 115, 104, 111, 119, 32, 116, 121, 112, 101, 111, 102]⟩
/-- Does an instruction's text say what its operation asks? -/
def saysB (x : Ins) : Bool :=
  let t := (formOf x.op).text
  if t = 12 then digitsB x.text
  else if t = 13 then floatB x.text
  else if t = 14 then decide ((x.text.size : Int) ≤ 65536)
  else if t = 15 then typedB x.text (x.a == 1) false
  else if t = 16 then amongB unaryL x.text
  else if t = 17 then amongB binaryL x.text
  else if t = 18 then amongB truthL x.text
  else if t = 19 then typedB x.text false false
  else if t = 20 then namedB x.text
  else if t = 21 then namesB x.text 2
  else if t = 22 then namesB x.text (wrap64 (x.a + 1))
  else if t = 23 then (if x.a = 2 then decide (x.text.size = 0) else if x.a < 2 then typedB x.text (x.a == 1) true else false)
  else if t = 24 then amongB builtL x.text
  else decide (x.text.size = 0)

theorem field_t (v0 v1 v2 v3 v4 : Value) (w : World) : (Instr.field 100 (.agg #[v0, v1, v2, v3, v4]) 2).run Tryz.prog w = .ok v2 w := by kernel_rfl
theorem toList_none (s : ByteArray) : decide (s.size = 0) = s.toList.isEmpty := by
  rw [Bool.eq_iff_iff, decide_eq_true_iff, List.isEmpty_iff, ByteArray.toList_eq]
  constructor
  · intro h
    exact List.length_eq_zero_iff.1 (by simpa using h)
  · intro h
    simpa using congrArg List.length h
theorem says_prep (x : Ins) {w w2 : World} (hb : Below (w.alloc (.cells #[.int .i64 x.op, .int .i64 x.a, .int .i64 x.b, .string x.text, .int .i64 x.pos] 50)).heap.size (w.alloc (.cells #[.int .i64 x.op, .int .i64 x.a, .int .i64 x.b, .string x.text, .int .i64 x.pos] 50)) w2) : Below w.heap.size w w2 ∧ Row w2 w.heap.size 50 (cellsI x) ∧ w2.cell? ⟨w.heap.size, 1, none⟩ = some (.int .i64 x.a) ∧ w2.cell? ⟨w.heap.size, 3, none⟩ = some (.string x.text) := by
  have h0 := Row.made w 50 (cellsI x)
  have h1 := Row.below h0 hb h0.lt
  exact ⟨below_more (below1 w _) hb (below1 w _).size, h1, h1.cell 1, h1.cell 3⟩

set_option maxRecDepth 20000 in
theorem says_12 (x : Ins) (w : World) (hs : x.text.size ≤ 2000000) (G : GlobP w) (h : (formOf x.op).text = 12) :
    Calls Tryz.prog 72 #[.agg #[.int .i64 x.op, .int .i64 x.a, .int .i64 x.b, .string x.text, .int .i64 x.pos]] w fun e w' => e = .returned (.bool (digitsB x.text)) ∧ Below w.heap.size w w' := by
  obtain ⟨F, hF⟩ : ∃ F, formOf x.op = F := ⟨_, rfl⟩
  rw [hF] at h
  have hf := forms_as x.op F hF
  have hfd := field_t (.string F.word) (.int .i64 F.a) (.int .i64 F.text) (.string F.takes) (.string F.lays)
  rw [h] at hf hfd
  clear hF h
  have HG := Lib.hid G
  have HS := Lib.hid hs
  clear hs G
  go_enter Tryz.func72, Tryz.ntmps72
  go_wp2_with (first
    | (go_at_call 70; refine (hf _).mono ?_; rintro en w2 ⟨rfl, hb2⟩; obtain ⟨hbw, hr2, ha, htx⟩ := says_prep x hb2; have HBW := Lib.hid hbw; have HR := Lib.hid hr2; clear hb2 hbw hr2)
    | (go_at_call 106; refine (digits_walk x.text _ (by have := HS.out; omega) (HG.out.below HBW.out)).mono ?_; rintro en w3 ⟨rfl, hb3⟩))
  go_ret
  exact ⟨rfl, HBW.out.trans (below_low hb3 HBW.out.size)⟩

set_option maxRecDepth 20000 in
theorem says_13 (x : Ins) (w : World) (hs : x.text.size ≤ 2000000) (G : GlobP w) (h : (formOf x.op).text = 13) :
    Calls Tryz.prog 72 #[.agg #[.int .i64 x.op, .int .i64 x.a, .int .i64 x.b, .string x.text, .int .i64 x.pos]] w fun e w' => e = .returned (.bool (floatB x.text)) ∧ Below w.heap.size w w' := by
  obtain ⟨F, hF⟩ : ∃ F, formOf x.op = F := ⟨_, rfl⟩
  rw [hF] at h
  have hf := forms_as x.op F hF
  have hfd := field_t (.string F.word) (.int .i64 F.a) (.int .i64 F.text) (.string F.takes) (.string F.lays)
  rw [h] at hf hfd
  clear hF h
  have HG := Lib.hid G
  have HS := Lib.hid hs
  clear hs G
  go_enter Tryz.func72, Tryz.ntmps72
  go_wp2_with (first
    | (go_at_call 70; refine (hf _).mono ?_; rintro en w2 ⟨rfl, hb2⟩; obtain ⟨hbw, hr2, ha, htx⟩ := says_prep x hb2; have HBW := Lib.hid hbw; have HR := Lib.hid hr2; clear hb2 hbw hr2)
    | (go_at_call 107; refine (float_walk x.text _ (by have := HS.out; omega) (HG.out.below HBW.out)).mono ?_; rintro en w3 ⟨rfl, hb3⟩))
  go_ret
  exact ⟨rfl, HBW.out.trans (below_low hb3 HBW.out.size)⟩

set_option maxRecDepth 20000 in
theorem says_14 (x : Ins) (w : World) (hs : x.text.size ≤ 2000000) (G : GlobP w) (h : (formOf x.op).text = 14) :
    Calls Tryz.prog 72 #[.agg #[.int .i64 x.op, .int .i64 x.a, .int .i64 x.b, .string x.text, .int .i64 x.pos]] w fun e w' => e = .returned (.bool (decide ((x.text.size : Int) ≤ 65536))) ∧ Below w.heap.size w w' := by
  obtain ⟨F, hF⟩ : ∃ F, formOf x.op = F := ⟨_, rfl⟩
  rw [hF] at h
  have hf := forms_as x.op F hF
  have hfd := field_t (.string F.word) (.int .i64 F.a) (.int .i64 F.text) (.string F.takes) (.string F.lays)
  rw [h] at hf hfd
  clear hF h
  have HG := Lib.hid G
  have HS := Lib.hid hs
  clear hs G
  go_enter Tryz.func72, Tryz.ntmps72
  go_wp2_with (first
    | (go_at_call 70; refine (hf _).mono ?_; rintro en w2 ⟨rfl, hb2⟩; obtain ⟨hbw, hr2, ha, htx⟩ := says_prep x hb2; have HBW := Lib.hid hbw; have HR := Lib.hid hr2; clear hb2 hbw hr2))
  go_ret
  exact ⟨ret_bool (by simp), HBW.out⟩

set_option maxRecDepth 20000 in
theorem says_15 (x : Ins) (w : World) (hs : x.text.size ≤ 2000000) (G : GlobP w) (h : (formOf x.op).text = 15) :
    Calls Tryz.prog 72 #[.agg #[.int .i64 x.op, .int .i64 x.a, .int .i64 x.b, .string x.text, .int .i64 x.pos]] w fun e w' => e = .returned (.bool (typedB x.text (x.a == 1) false)) ∧ Below w.heap.size w w' := by
  obtain ⟨F, hF⟩ : ∃ F, formOf x.op = F := ⟨_, rfl⟩
  rw [hF] at h
  have hf := forms_as x.op F hF
  have hfd := field_t (.string F.word) (.int .i64 F.a) (.int .i64 F.text) (.string F.takes) (.string F.lays)
  rw [h] at hf hfd
  clear hF h
  have HG := Lib.hid G
  have HS := Lib.hid hs
  clear hs G
  go_enter Tryz.func72, Tryz.ntmps72
  go_wp2_with (first
    | (go_at_call 70; refine (hf _).mono ?_; rintro en w2 ⟨rfl, hb2⟩; obtain ⟨hbw, hr2, ha, htx⟩ := says_prep x hb2; have HBW := Lib.hid hbw; have HR := Lib.hid hr2; clear hb2 hbw hr2)
    | (go_at_call 108; refine (typed_walk x.text _ _ _ (by have := HS.out; omega) (HG.out.below HBW.out)).mono ?_; rintro en w3 ⟨rfl, hb3⟩))
  go_ret
  exact ⟨rfl, HBW.out.trans (below_low hb3 HBW.out.size)⟩

set_option maxRecDepth 20000 in
theorem says_16 (x : Ins) (w : World) (hs : x.text.size ≤ 2000000) (G : GlobP w) (h : (formOf x.op).text = 16) :
    Calls Tryz.prog 72 #[.agg #[.int .i64 x.op, .int .i64 x.a, .int .i64 x.b, .string x.text, .int .i64 x.pos]] w fun e w' => e = .returned (.bool (amongB unaryL x.text)) ∧ Below w.heap.size w w' := by
  obtain ⟨F, hF⟩ : ∃ F, formOf x.op = F := ⟨_, rfl⟩
  rw [hF] at h
  have hf := forms_as x.op F hF
  have hfd := field_t (.string F.word) (.int .i64 F.a) (.int .i64 F.text) (.string F.takes) (.string F.lays)
  rw [h] at hf hfd
  clear hF h
  have HG := Lib.hid G
  have HS := Lib.hid hs
  clear hs G
  go_enter Tryz.func72, Tryz.ntmps72
  go_wp2_with (first
    | (go_at_call 70; refine (hf _).mono ?_; rintro en w2 ⟨rfl, hb2⟩; obtain ⟨hbw, hr2, ha, htx⟩ := says_prep x hb2; have HBW := Lib.hid hbw; have HR := Lib.hid hr2; clear hb2 hbw hr2)
    | (go_at_call 104; refine (among_walk _ x _ _ (by decide) HR.out (HG.out.below HBW.out)).mono ?_; rintro en w3 ⟨rfl, hb3⟩))
  go_ret
  exact ⟨rfl, HBW.out.trans (below_low hb3 HBW.out.size)⟩

set_option maxRecDepth 20000 in
theorem says_17 (x : Ins) (w : World) (hs : x.text.size ≤ 2000000) (G : GlobP w) (h : (formOf x.op).text = 17) :
    Calls Tryz.prog 72 #[.agg #[.int .i64 x.op, .int .i64 x.a, .int .i64 x.b, .string x.text, .int .i64 x.pos]] w fun e w' => e = .returned (.bool (amongB binaryL x.text)) ∧ Below w.heap.size w w' := by
  obtain ⟨F, hF⟩ : ∃ F, formOf x.op = F := ⟨_, rfl⟩
  rw [hF] at h
  have hf := forms_as x.op F hF
  have hfd := field_t (.string F.word) (.int .i64 F.a) (.int .i64 F.text) (.string F.takes) (.string F.lays)
  rw [h] at hf hfd
  clear hF h
  have HG := Lib.hid G
  have HS := Lib.hid hs
  clear hs G
  go_enter Tryz.func72, Tryz.ntmps72
  go_wp2_with (first
    | (go_at_call 70; refine (hf _).mono ?_; rintro en w2 ⟨rfl, hb2⟩; obtain ⟨hbw, hr2, ha, htx⟩ := says_prep x hb2; have HBW := Lib.hid hbw; have HR := Lib.hid hr2; clear hb2 hbw hr2)
    | (go_at_call 104; refine (among_walk _ x _ _ (by decide) HR.out (HG.out.below HBW.out)).mono ?_; rintro en w3 ⟨rfl, hb3⟩))
  go_ret
  exact ⟨rfl, HBW.out.trans (below_low hb3 HBW.out.size)⟩

set_option maxRecDepth 20000 in
theorem says_18 (x : Ins) (w : World) (hs : x.text.size ≤ 2000000) (G : GlobP w) (h : (formOf x.op).text = 18) :
    Calls Tryz.prog 72 #[.agg #[.int .i64 x.op, .int .i64 x.a, .int .i64 x.b, .string x.text, .int .i64 x.pos]] w fun e w' => e = .returned (.bool (amongB truthL x.text)) ∧ Below w.heap.size w w' := by
  obtain ⟨F, hF⟩ : ∃ F, formOf x.op = F := ⟨_, rfl⟩
  rw [hF] at h
  have hf := forms_as x.op F hF
  have hfd := field_t (.string F.word) (.int .i64 F.a) (.int .i64 F.text) (.string F.takes) (.string F.lays)
  rw [h] at hf hfd
  clear hF h
  have HG := Lib.hid G
  have HS := Lib.hid hs
  clear hs G
  go_enter Tryz.func72, Tryz.ntmps72
  go_wp2_with (first
    | (go_at_call 70; refine (hf _).mono ?_; rintro en w2 ⟨rfl, hb2⟩; obtain ⟨hbw, hr2, ha, htx⟩ := says_prep x hb2; have HBW := Lib.hid hbw; have HR := Lib.hid hr2; clear hb2 hbw hr2)
    | (go_at_call 104; refine (among_walk _ x _ _ (by decide) HR.out (HG.out.below HBW.out)).mono ?_; rintro en w3 ⟨rfl, hb3⟩))
  go_ret
  exact ⟨rfl, HBW.out.trans (below_low hb3 HBW.out.size)⟩

set_option maxRecDepth 20000 in
theorem says_19 (x : Ins) (w : World) (hs : x.text.size ≤ 2000000) (G : GlobP w) (h : (formOf x.op).text = 19) :
    Calls Tryz.prog 72 #[.agg #[.int .i64 x.op, .int .i64 x.a, .int .i64 x.b, .string x.text, .int .i64 x.pos]] w fun e w' => e = .returned (.bool (typedB x.text false false)) ∧ Below w.heap.size w w' := by
  obtain ⟨F, hF⟩ : ∃ F, formOf x.op = F := ⟨_, rfl⟩
  rw [hF] at h
  have hf := forms_as x.op F hF
  have hfd := field_t (.string F.word) (.int .i64 F.a) (.int .i64 F.text) (.string F.takes) (.string F.lays)
  rw [h] at hf hfd
  clear hF h
  have HG := Lib.hid G
  have HS := Lib.hid hs
  clear hs G
  go_enter Tryz.func72, Tryz.ntmps72
  go_wp2_with (first
    | (go_at_call 70; refine (hf _).mono ?_; rintro en w2 ⟨rfl, hb2⟩; obtain ⟨hbw, hr2, ha, htx⟩ := says_prep x hb2; have HBW := Lib.hid hbw; have HR := Lib.hid hr2; clear hb2 hbw hr2)
    | (go_at_call 108; refine (typed_walk x.text _ _ _ (by have := HS.out; omega) (HG.out.below HBW.out)).mono ?_; rintro en w3 ⟨rfl, hb3⟩))
  go_ret
  exact ⟨rfl, HBW.out.trans (below_low hb3 HBW.out.size)⟩

set_option maxRecDepth 20000 in
theorem says_20 (x : Ins) (w : World) (hs : x.text.size ≤ 2000000) (G : GlobP w) (h : (formOf x.op).text = 20) :
    Calls Tryz.prog 72 #[.agg #[.int .i64 x.op, .int .i64 x.a, .int .i64 x.b, .string x.text, .int .i64 x.pos]] w fun e w' => e = .returned (.bool (namedB x.text)) ∧ Below w.heap.size w w' := by
  obtain ⟨F, hF⟩ : ∃ F, formOf x.op = F := ⟨_, rfl⟩
  rw [hF] at h
  have hf := forms_as x.op F hF
  have hfd := field_t (.string F.word) (.int .i64 F.a) (.int .i64 F.text) (.string F.takes) (.string F.lays)
  rw [h] at hf hfd
  clear hF h
  have HG := Lib.hid G
  have HS := Lib.hid hs
  clear hs G
  go_enter Tryz.func72, Tryz.ntmps72
  go_wp2_with (first
    | (go_at_call 70; refine (hf _).mono ?_; rintro en w2 ⟨rfl, hb2⟩; obtain ⟨hbw, hr2, ha, htx⟩ := says_prep x hb2; have HBW := Lib.hid hbw; have HR := Lib.hid hr2; clear hb2 hbw hr2)
    | (go_at_call 65; refine (named_any x.text _ (by have := HS.out; omega) (HG.out.below HBW.out)).mono ?_; rintro en w3 ⟨rfl, hb3⟩))
  go_ret
  exact ⟨rfl, HBW.out.trans (below_low hb3 HBW.out.size)⟩

set_option maxRecDepth 20000 in
theorem says_21 (x : Ins) (w : World) (hs : x.text.size ≤ 2000000) (G : GlobP w) (h : (formOf x.op).text = 21) :
    Calls Tryz.prog 72 #[.agg #[.int .i64 x.op, .int .i64 x.a, .int .i64 x.b, .string x.text, .int .i64 x.pos]] w fun e w' => e = .returned (.bool (namesB x.text 2)) ∧ Below w.heap.size w w' := by
  obtain ⟨F, hF⟩ : ∃ F, formOf x.op = F := ⟨_, rfl⟩
  rw [hF] at h
  have hf := forms_as x.op F hF
  have hfd := field_t (.string F.word) (.int .i64 F.a) (.int .i64 F.text) (.string F.takes) (.string F.lays)
  rw [h] at hf hfd
  clear hF h
  have HG := Lib.hid G
  have HS := Lib.hid hs
  clear hs G
  go_enter Tryz.func72, Tryz.ntmps72
  go_wp2_with (first
    | (go_at_call 70; refine (hf _).mono ?_; rintro en w2 ⟨rfl, hb2⟩; obtain ⟨hbw, hr2, ha, htx⟩ := says_prep x hb2; have HBW := Lib.hid hbw; have HR := Lib.hid hr2; clear hb2 hbw hr2)
    | (go_at_call 109; refine (names_walk x.text _ _ HS.out (HG.out.below HBW.out)).mono ?_; rintro en w3 ⟨rfl, hb3⟩))
  go_ret
  exact ⟨rfl, HBW.out.trans (below_low hb3 HBW.out.size)⟩

set_option maxRecDepth 20000 in
theorem says_22 (x : Ins) (w : World) (hs : x.text.size ≤ 2000000) (G : GlobP w) (h : (formOf x.op).text = 22) :
    Calls Tryz.prog 72 #[.agg #[.int .i64 x.op, .int .i64 x.a, .int .i64 x.b, .string x.text, .int .i64 x.pos]] w fun e w' => e = .returned (.bool (namesB x.text (wrap64 (x.a + 1)))) ∧ Below w.heap.size w w' := by
  obtain ⟨F, hF⟩ : ∃ F, formOf x.op = F := ⟨_, rfl⟩
  rw [hF] at h
  have hf := forms_as x.op F hF
  have hfd := field_t (.string F.word) (.int .i64 F.a) (.int .i64 F.text) (.string F.takes) (.string F.lays)
  rw [h] at hf hfd
  clear hF h
  have HG := Lib.hid G
  have HS := Lib.hid hs
  clear hs G
  go_enter Tryz.func72, Tryz.ntmps72
  go_wp2_with (first
    | (go_at_call 70; refine (hf _).mono ?_; rintro en w2 ⟨rfl, hb2⟩; obtain ⟨hbw, hr2, ha, htx⟩ := says_prep x hb2; have HBW := Lib.hid hbw; have HR := Lib.hid hr2; clear hb2 hbw hr2)
    | (go_at_call 109; refine (names_walk x.text _ _ HS.out (HG.out.below HBW.out)).mono ?_; rintro en w3 ⟨rfl, hb3⟩))
  go_ret
  exact ⟨rfl, HBW.out.trans (below_low hb3 HBW.out.size)⟩

set_option maxRecDepth 20000 in
theorem says_24 (x : Ins) (w : World) (hs : x.text.size ≤ 2000000) (G : GlobP w) (h : (formOf x.op).text = 24) :
    Calls Tryz.prog 72 #[.agg #[.int .i64 x.op, .int .i64 x.a, .int .i64 x.b, .string x.text, .int .i64 x.pos]] w fun e w' => e = .returned (.bool (amongB builtL x.text)) ∧ Below w.heap.size w w' := by
  obtain ⟨F, hF⟩ : ∃ F, formOf x.op = F := ⟨_, rfl⟩
  rw [hF] at h
  have hf := forms_as x.op F hF
  have hfd := field_t (.string F.word) (.int .i64 F.a) (.int .i64 F.text) (.string F.takes) (.string F.lays)
  rw [h] at hf hfd
  clear hF h
  have HG := Lib.hid G
  have HS := Lib.hid hs
  clear hs G
  go_enter Tryz.func72, Tryz.ntmps72
  go_wp2_with (first
    | (go_at_call 70; refine (hf _).mono ?_; rintro en w2 ⟨rfl, hb2⟩; obtain ⟨hbw, hr2, ha, htx⟩ := says_prep x hb2; have HBW := Lib.hid hbw; have HR := Lib.hid hr2; clear hb2 hbw hr2)
    | (go_at_call 104; refine (among_walk _ x _ _ (by decide) HR.out (HG.out.below HBW.out)).mono ?_; rintro en w3 ⟨rfl, hb3⟩))
  go_ret
  exact ⟨rfl, HBW.out.trans (below_low hb3 HBW.out.size)⟩

set_option maxRecDepth 20000 in
theorem says_23 (x : Ins) (w : World) (hs : x.text.size ≤ 2000000) (G : GlobP w) (h : (formOf x.op).text = 23) :
    Calls Tryz.prog 72 #[.agg #[.int .i64 x.op, .int .i64 x.a, .int .i64 x.b, .string x.text, .int .i64 x.pos]] w fun e w' => e = .returned (.bool ((if x.a = 2 then decide (x.text.size = 0) else if x.a < 2 then typedB x.text (x.a == 1) true else false))) ∧ Below w.heap.size w w' := by
  obtain ⟨F, hF⟩ : ∃ F, formOf x.op = F := ⟨_, rfl⟩
  rw [hF] at h
  have hf := forms_as x.op F hF
  have hfd := field_t (.string F.word) (.int .i64 F.a) (.int .i64 F.text) (.string F.takes) (.string F.lays)
  rw [h] at hf hfd
  clear hF h
  have HG := Lib.hid G
  have HS := Lib.hid hs
  clear hs G
  by_cases h2 : x.a = 2
  · rw [if_pos h2, h2]
    go_enter Tryz.func72, Tryz.ntmps72
    go_wp2_with (first
      | (go_at_call 70; refine (hf _).mono ?_; rintro en w2 ⟨rfl, hb2⟩; obtain ⟨hbw, hr2, ha, htx⟩ := says_prep ⟨x.op, 2, x.b, x.text, x.pos⟩ hb2; have HBW := Lib.hid hbw; have HR := Lib.hid hr2; clear hb2 hbw hr2))
    all_goals (go_ret; refine ⟨ret_bool ?_, HBW.out⟩; rw [toList_none])
    all_goals (rename_i he; rw [he]; rfl)
  · rw [if_neg h2]
    by_cases h3 : x.a < 2
    · rw [if_pos h3]
      go_enter Tryz.func72, Tryz.ntmps72
      go_wp2_with (first
        | (go_at_call 70; refine (hf _).mono ?_; rintro en w2 ⟨rfl, hb2⟩; obtain ⟨hbw, hr2, ha, htx⟩ := says_prep x hb2; have HBW := Lib.hid hbw; have HR := Lib.hid hr2; clear hb2 hbw hr2)
        | (go_at_call 108; refine (typed_walk x.text _ _ _ (by have := HS.out; omega) (HG.out.below HBW.out)).mono ?_; rintro en w3 ⟨rfl, hb3⟩))
      go_ret
      exact ⟨rfl, HBW.out.trans (below_low hb3 HBW.out.size)⟩
    · rw [if_neg h3]
      go_enter Tryz.func72, Tryz.ntmps72
      go_wp2_with (first
        | (go_at_call 70; refine (hf _).mono ?_; rintro en w2 ⟨rfl, hb2⟩; obtain ⟨hbw, hr2, ha, htx⟩ := says_prep x hb2; have HBW := Lib.hid hbw; have HR := Lib.hid hr2; clear hb2 hbw hr2))
      go_ret
      exact ⟨rfl, HBW.out⟩

set_option maxRecDepth 20000 in
theorem says_no (x : Ins) (w : World) (hs : x.text.size ≤ 2000000) (G : GlobP w) (h12 : ¬ (formOf x.op).text = 12) (h13 : ¬ (formOf x.op).text = 13) (h14 : ¬ (formOf x.op).text = 14) (h15 : ¬ (formOf x.op).text = 15) (h16 : ¬ (formOf x.op).text = 16) (h17 : ¬ (formOf x.op).text = 17) (h18 : ¬ (formOf x.op).text = 18) (h19 : ¬ (formOf x.op).text = 19) (h20 : ¬ (formOf x.op).text = 20) (h21 : ¬ (formOf x.op).text = 21) (h22 : ¬ (formOf x.op).text = 22) (h23 : ¬ (formOf x.op).text = 23) (h24 : ¬ (formOf x.op).text = 24) :
    Calls Tryz.prog 72 #[.agg #[.int .i64 x.op, .int .i64 x.a, .int .i64 x.b, .string x.text, .int .i64 x.pos]] w fun e w' => e = .returned (.bool (decide (x.text.size = 0))) ∧ Below w.heap.size w w' := by
  obtain ⟨F, hF⟩ : ∃ F, formOf x.op = F := ⟨_, rfl⟩
  rw [hF] at h12 h13 h14 h15 h16 h17 h18 h19 h20 h21 h22 h23 h24
  have hf := forms_as x.op F hF
  have hfd := field_t (.string F.word) (.int .i64 F.a) (.int .i64 F.text) (.string F.takes) (.string F.lays)
  clear hF
  have HG := Lib.hid G
  have HS := Lib.hid hs
  clear hs G
  go_enter Tryz.func72, Tryz.ntmps72
  go_wp2_with (first
    | (go_at_call 70; refine (hf _).mono ?_; rintro en w2 ⟨rfl, hb2⟩; obtain ⟨hbw, hr2, ha, htx⟩ := says_prep x hb2; have HBW := Lib.hid hbw; have HR := Lib.hid hr2; clear hb2 hbw hr2))
  go_ret
  exact ⟨ret_bool (toList_none _), HBW.out⟩

/-- The contract of code.says. -/
theorem says_walk (x : Ins) (w : World) (hs : x.text.size ≤ 2000000) (G : GlobP w) :
    Calls Tryz.prog 72 #[.agg #[.int .i64 x.op, .int .i64 x.a, .int .i64 x.b, .string x.text, .int .i64 x.pos]] w fun e w' => e = .returned (.bool (saysB x)) ∧ Below w.heap.size w w' := by
  unfold saysB
  dsimp only
  by_cases h12 : (formOf x.op).text = 12
  · rw [if_pos h12]
    exact says_12 x w hs G h12
  by_cases h13 : (formOf x.op).text = 13
  · rw [if_neg h12, if_pos h13]
    exact says_13 x w hs G h13
  by_cases h14 : (formOf x.op).text = 14
  · rw [if_neg h12, if_neg h13, if_pos h14]
    exact says_14 x w hs G h14
  by_cases h15 : (formOf x.op).text = 15
  · rw [if_neg h12, if_neg h13, if_neg h14, if_pos h15]
    exact says_15 x w hs G h15
  by_cases h16 : (formOf x.op).text = 16
  · rw [if_neg h12, if_neg h13, if_neg h14, if_neg h15, if_pos h16]
    exact says_16 x w hs G h16
  by_cases h17 : (formOf x.op).text = 17
  · rw [if_neg h12, if_neg h13, if_neg h14, if_neg h15, if_neg h16, if_pos h17]
    exact says_17 x w hs G h17
  by_cases h18 : (formOf x.op).text = 18
  · rw [if_neg h12, if_neg h13, if_neg h14, if_neg h15, if_neg h16, if_neg h17, if_pos h18]
    exact says_18 x w hs G h18
  by_cases h19 : (formOf x.op).text = 19
  · rw [if_neg h12, if_neg h13, if_neg h14, if_neg h15, if_neg h16, if_neg h17, if_neg h18, if_pos h19]
    exact says_19 x w hs G h19
  by_cases h20 : (formOf x.op).text = 20
  · rw [if_neg h12, if_neg h13, if_neg h14, if_neg h15, if_neg h16, if_neg h17, if_neg h18, if_neg h19, if_pos h20]
    exact says_20 x w hs G h20
  by_cases h21 : (formOf x.op).text = 21
  · rw [if_neg h12, if_neg h13, if_neg h14, if_neg h15, if_neg h16, if_neg h17, if_neg h18, if_neg h19, if_neg h20, if_pos h21]
    exact says_21 x w hs G h21
  by_cases h22 : (formOf x.op).text = 22
  · rw [if_neg h12, if_neg h13, if_neg h14, if_neg h15, if_neg h16, if_neg h17, if_neg h18, if_neg h19, if_neg h20, if_neg h21, if_pos h22]
    exact says_22 x w hs G h22
  by_cases h23 : (formOf x.op).text = 23
  · rw [if_neg h12, if_neg h13, if_neg h14, if_neg h15, if_neg h16, if_neg h17, if_neg h18, if_neg h19, if_neg h20, if_neg h21, if_neg h22, if_pos h23]
    exact says_23 x w hs G h23
  by_cases h24 : (formOf x.op).text = 24
  · rw [if_neg h12, if_neg h13, if_neg h14, if_neg h15, if_neg h16, if_neg h17, if_neg h18, if_neg h19, if_neg h20, if_neg h21, if_neg h22, if_neg h23, if_pos h24]
    exact says_24 x w hs G h24
  rw [if_neg h12, if_neg h13, if_neg h14, if_neg h15, if_neg h16, if_neg h17, if_neg h18, if_neg h19, if_neg h20, if_neg h21, if_neg h22, if_neg h23, if_neg h24]
  exact says_no x w hs G h12 h13 h14 h15 h16 h17 h18 h19 h20 h21 h22 h23 h24
end Go.Proofs.YtmecmlpoallpcaaGreatDoor

/- What a program is in memory: functions of six cells each, the names of its globals. -/
namespace Go.Proofs.YtmecmlpoallpcaaGreatDoor
set_option linter.unusedVariables false
open Go.RowKit Go.Proofs.PeepPlain

structure Fn where
  name : ByteArray
  params : Int
  slots : Int
  TA : Option Addr
  taken : List Int
  tc : Nat
  around : Int
  CA : Option Addr
  code : List Ins
  cc : Nat
instance : Inhabited Fn := ⟨⟨⟨#[]⟩, 0, 0, none, [], 0, 0, none, [], 0⟩⟩
def cellsFn (f : Fn) : List Value := [.string f.name, .int .i64 f.params, .int .i64 f.slots, .slice f.TA f.taken.length f.tc, .int .i64 f.around, .slice f.CA f.code.length f.cc]
def flatFn (l : List Fn) : List Value := l.flatMap cellsFn
theorem flatFn_length (l : List Fn) : (flatFn l).length = l.length * 6 := by
  induction l with
  | nil => rfl
  | cons e l ih => simp only [flatFn, List.flatMap_cons, List.length_append] at *; rw [ih]; simp [cellsFn]; omega
theorem flatFn_at (l : List Fn) (i : Nat) (h : i < l.length) (j : Nat) (hj : j < 6) : (flatFn l)[i * 6 + j]? = (cellsFn l[i])[j]? := by
  induction l generalizing i with
  | nil => simp at h
  | cons e l ih =>
    have e6 : (cellsFn e).length = 6 := rfl
    cases i with
    | zero =>
      simp only [flatFn, List.flatMap_cons, Nat.zero_mul, Nat.zero_add, List.getElem_cons_zero]
      rw [List.getElem?_append_left (by omega)]
    | succ i =>
      have := ih i (by simpa using h)
      simp only [flatFn, List.flatMap_cons, List.getElem_cons_succ] at *
      rw [List.getElem?_append_right (by omega), show (i + 1) * 6 + j - (cellsFn e).length = i * 6 + j by omega]
      exact this
/-- The functions fs lie at address A, their parts too. -/
structure FnsAt (w : World) (A : Option Addr) (fs : List Fn) : Prop where
  rows : Lies w A (flatFn fs)
  code : ∀ f ∈ fs, InsAt w f.CA f.code
  taken : ∀ f ∈ fs, Lies w f.TA (f.taken.map (Value.int .i64))
theorem FnsAt.below {w w' : World} {A : Option Addr} {fs : List Fn} (h : FnsAt w A fs) (hb : Below w.heap.size w w') : FnsAt w' A fs :=
  ⟨h.rows.below hb rfl, fun f hf => (h.code f hf).below hb, fun f hf => (h.taken f hf).below hb rfl⟩
theorem FnsAt.at_ {w : World} {A : Option Addr} {fs : List Fn} (h : FnsAt w A fs) (h0 : 0 < fs.length) :
    ∃ b off, A = some ⟨b, off, none⟩ ∧ b < w.heap.size ∧ ∀ i, (hi : i < fs.length) → w.cell? ⟨b, off + i * 6, none⟩ = some (.string fs[i].name) ∧ w.cell? ⟨b, off + i * 6 + 1, none⟩ = some (.int .i64 fs[i].params) ∧ w.cell? ⟨b, off + i * 6 + 2, none⟩ = some (.int .i64 fs[i].slots) ∧ w.cell? ⟨b, off + i * 6 + 3, none⟩ = some (.slice fs[i].TA fs[i].taken.length fs[i].tc) ∧ w.cell? ⟨b, off + i * 6 + 4, none⟩ = some (.int .i64 fs[i].around) ∧ w.cell? ⟨b, off + i * 6 + 5, none⟩ = some (.slice fs[i].CA fs[i].code.length fs[i].cc) := by
  obtain ⟨b, off, e, hlt, hc⟩ := h.rows (by rw [flatFn_length]; omega)
  refine ⟨b, off, e, hlt, fun i hi => ⟨hc _ _ ?_, ?_, ?_, ?_, ?_, ?_⟩⟩
  · exact flatFn_at fs i hi 0 (by omega)
  · rw [Nat.add_assoc]; exact hc _ _ (flatFn_at fs i hi 1 (by omega))
  · rw [Nat.add_assoc]; exact hc _ _ (flatFn_at fs i hi 2 (by omega))
  · rw [Nat.add_assoc]; exact hc _ _ (flatFn_at fs i hi 3 (by omega))
  · rw [Nat.add_assoc]; exact hc _ _ (flatFn_at fs i hi 4 (by omega))
  · rw [Nat.add_assoc]; exact hc _ _ (flatFn_at fs i hi 5 (by omega))

/-- Does an instruction's number lie within its bounds? (gl: how many globals; f: the function's number.) -/
def numberedB (fs : List Fn) (gl : Nat) (f : Nat) (x : Ins) : Bool :=
  let o := fs.getD f default
  let t := (formOf x.op).a
  let within (n : Int) : Bool := decide (0 ≤ x.a) && decide (x.a < n)
  if t = 0 then decide (x.a = 0)
  else if t = 1 then within 2
  else if t = 2 then within 3
  else if t = 3 then within o.slots
  else if t = 4 then within gl
  else if t = 5 then within o.taken.length
  else if t = 6 then decide (1 ≤ x.a) && decide (x.a ≤ 7)
  else if t = 7 then within 20001
  else if t = 8 then within 31
  else if t = 9 then decide (0 < x.a) && decide (x.a < fs.length) && (decide ((fs.getD x.a.toNat default).around = -1) || decide ((fs.getD x.a.toNat default).around = f))
  else if t = 10 then within o.code.length
  else if t = 11 then decide (x.a = 2) || decide (x.a = 3)
  else within 0
end Go.Proofs.YtmecmlpoallpcaaGreatDoor
