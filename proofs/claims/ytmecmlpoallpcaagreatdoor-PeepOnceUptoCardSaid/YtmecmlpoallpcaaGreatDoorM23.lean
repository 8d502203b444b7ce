/- Texts of this proof, put together: RightPlain, Right. -/
import Derived.Test.YtmecmlpoallpcaaGreatDoorM19
import Derived.Test.YtmecmlpoallpcaaGreatDoorM22
set_option linter.all false
/- What is right code, plain: code.Right's tests; what they say of each function's code. No walk. -/
namespace Go.Proofs.YtmecmlpoallpcaaGreatDoor
set_option linter.unusedVariables false
open Go.RowKit Go.Proofs.PeepPlain

/-- Is a program right code? -/
structure RightP (fs : List Fn) (gs : List ByteArray) : Prop where
  many : manyB fs gs.length = true
  globals : globalsB gs = true
  heads : ∀ i, i < fs.length → headedB fs i (namesTo fs i) = true
  some_ : ∀ i, (hi : i < fs.length) → fs[i].code.length ≠ 0
  fine : ∀ i k, (hi : i < fs.length) → k < fs[i].code.length → fineB fs gs.length i k = true
  fits : ∀ i, (hi : i < fs.length) → PeepPlain.Fits E0 fs[i].code

theorem many_are {fs : List Fn} {gl : Nat} (h : manyB fs gl = true) : 1 ≤ fs.length ∧ fs.length ≤ 20000 ∧ gl ≤ 20000 ∧ sumTo fs fs.length ≤ 60000 ∧ ∀ i, (hi : i < fs.length) → fs[i].slots ≤ 20000 ∧ fs[i].taken.length ≤ 20000 := by
  unfold manyB at h
  rw [Bool.and_eq_true, Bool.and_eq_true, Bool.and_eq_true, Bool.and_eq_true, List.all_eq_true] at h
  obtain ⟨⟨⟨⟨h1, h2⟩, h3⟩, h4⟩, h5⟩ := h
  refine ⟨of_decide_eq_true h1, of_decide_eq_true h2, of_decide_eq_true h3, of_decide_eq_true h4, fun i hi => ?_⟩
  have := h5 _ (List.getElem_mem hi)
  rw [Bool.and_eq_true] at this
  exact ⟨of_decide_eq_true this.1, of_decide_eq_true this.2⟩
theorem code_le {fs : List Fn} {i : Nat} (hi : i < fs.length) : fs[i].code.length ≤ sumTo fs fs.length := by
  have h1 := sumTo_succ fs i hi
  have h2 := sumTo_all fs (show i + 1 ≤ fs.length by omega)
  omega
/-- The parts of fineB. -/
theorem fine_parts {fs : List Fn} {gl f k : Nat} (hf : f < fs.length) (hk : k < fs[f].code.length) (h : fineB fs gl f k = true) :
    numberedB fs gl f fs[f].code[k] = true ∧ saysB fs[f].code[k] = true ∧ (fs[f].code[k].b = 0 ∨ leftB fs[f].code[k] = true) ∧ backB fs[f].code k fs[f].code[k] = false ∧ lastB fs[f].code k fs[f].code[k] = true ∧ (formOf fs[f].code[k].op).word.toList.isEmpty = false ∧ 0 ≤ fs[f].code[k].pos ∧ fs[f].code[k].pos ≤ 60000 := by
  unfold fineB at h
  dsimp only at h
  rw [getD_at0 hf, getD_at0 hk] at h
  simp only [Bool.and_eq_true, Bool.or_eq_true, Bool.not_eq_true'] at h
  obtain ⟨⟨⟨⟨⟨⟨⟨h1, h2⟩, h3⟩, h4⟩, h5⟩, h6⟩, h7⟩, h8⟩ := h
  exact ⟨h4, h5, h6.imp of_decide_eq_true id, h7, h8, h1, of_decide_eq_true h2, of_decide_eq_true h3⟩
theorem within_are {a n : Int} (h : (decide (0 ≤ a) && decide (a < n)) = true) : 0 ≤ a ∧ a < n := by
  rw [Bool.and_eq_true] at h
  exact ⟨of_decide_eq_true h.1, of_decide_eq_true h.2⟩
theorem numbered_low {fs : List Fn} {gl f : Nat} {x : Ins} (hf : f < fs.length) (hm : manyB fs gl = true) (h : numberedB fs gl f x = true) : 0 ≤ x.a ∧ x.a ≤ 100000 := by
  obtain ⟨m1, m2, m3, m4, m5⟩ := many_are hm
  have hc := code_le hf
  obtain ⟨n1, n2⟩ := m5 f hf
  unfold numberedB at h
  dsimp only at h
  rw [getD_at0 hf] at h
  generalize (formOf x.op).a = t at h
  by_cases t0 : t = 0
  · rw [if_pos t0] at h; have := of_decide_eq_true h; omega
  rw [if_neg t0] at h
  by_cases t1 : t = 1
  · rw [if_pos t1] at h; have := within_are h; omega
  rw [if_neg t1] at h
  by_cases t2 : t = 2
  · rw [if_pos t2] at h; have := within_are h; omega
  rw [if_neg t2] at h
  by_cases t3 : t = 3
  · rw [if_pos t3] at h; have := within_are h; omega
  rw [if_neg t3] at h
  by_cases t4 : t = 4
  · rw [if_pos t4] at h; have := within_are h; omega
  rw [if_neg t4] at h
  by_cases t5 : t = 5
  · rw [if_pos t5] at h; have := within_are h; omega
  rw [if_neg t5] at h
  by_cases t6 : t = 6
  · rw [if_pos t6] at h; rw [Bool.and_eq_true] at h; have h1 := of_decide_eq_true h.1; have h2 := of_decide_eq_true h.2; omega
  rw [if_neg t6] at h
  by_cases t7 : t = 7
  · rw [if_pos t7] at h; have := within_are h; omega
  rw [if_neg t7] at h
  by_cases t8 : t = 8
  · rw [if_pos t8] at h; have := within_are h; omega
  rw [if_neg t8] at h
  by_cases t9 : t = 9
  · rw [if_pos t9] at h; rw [Bool.and_eq_true, Bool.and_eq_true] at h; have h1 := of_decide_eq_true h.1.1; have h2 := of_decide_eq_true h.1.2; omega
  rw [if_neg t9] at h
  by_cases t10 : t = 10
  · rw [if_pos t10] at h; have := within_are h; omega
  rw [if_neg t10] at h
  by_cases t11 : t = 11
  · rw [if_pos t11] at h; rw [Bool.or_eq_true] at h; rcases h with h | h <;> (have := of_decide_eq_true h; omega)
  rw [if_neg t11] at h
  have := within_are h; omega
theorem left_low {x : Ins} (h : x.b = 0 ∨ leftB x = true) : 0 ≤ x.b ∧ x.b ≤ 3 := by
  rcases h with h | h
  · omega
  · unfold leftB at h
    simp only [Bool.and_eq_true, Bool.or_eq_true, decide_eq_true_eq] at h
    omega
/-- What code that is fine is like. -/
theorem fine_wf {fs : List Fn} {gl f : Nat} (hf : f < fs.length) (hn : fs[f].code.length ≠ 0) (h : ∀ k, k < fs[f].code.length → fineB fs gl f k = true) : WF fs[f].code where
  pos := by omega
  low := fun k hk hj => by
    have p := fine_parts hf hk (h k hk)
    rw [PeepPlain.opAt, getD_at0 hk] at hj
    rw [getD_at0 hk]
    exact (jumps_bound p.1 hj).1
  high := fun k hk hj => by
    have p := fine_parts hf hk (h k hk)
    rw [PeepPlain.opAt, getD_at0 hk] at hj
    have := jumps_bound p.1 hj
    rw [getD_at0 hf] at this
    rw [aAt, getD_at0 hk]
    omega
  back := fun k hk hj hle => by
    have p := fine_parts hf hk (h k hk)
    have hop : PeepPlain.opAt fs[f].code k = fs[f].code[k].op := by rw [PeepPlain.opAt, getD_at0 hk]
    have haa : aAt fs[f].code k = fs[f].code[k].a.toNat := by rw [aAt, getD_at0 hk]
    rw [hop] at hj
    rw [haa] at hle ⊢
    have hb := jumps_bound p.1 hj
    have hbk := p.2.2.2.1
    unfold backB at hbk
    rw [decide_eq_true hj, decide_eq_true (show fs[f].code[k].a ≤ (k : Int) by omega), Bool.true_and, Bool.true_and] at hbk
    unfold pauses
    by_cases h1 : PeepPlain.opAt fs[f].code fs[f].code[k].a.toNat = 1
    · exact .inl h1
    · by_cases h2 : PeepPlain.opAt fs[f].code fs[f].code[k].a.toNat = 2
      · exact .inr h2
      · rw [decide_eq_true h1, decide_eq_true h2] at hbk
        cases hbk
  last := by
    have hk : fs[f].code.length - 1 < fs[f].code.length := by omega
    have p := fine_parts hf hk (h _ hk)
    have hl := p.2.2.2.2.1
    unfold lastB at hl
    rw [PeepPlain.opAt, getD_at0 hk]
    rw [Bool.or_eq_true, Bool.or_eq_true] at hl
    rcases hl with (hl | hl) | hl
    · have := of_decide_eq_true hl; omega
    · exact .inl (of_decide_eq_true hl)
    · exact .inr (of_decide_eq_true hl)
theorem fine_low {fs : List Fn} {gl f : Nat} (hf : f < fs.length) (hm : manyB fs gl = true) (h : ∀ k, k < fs[f].code.length → fineB fs gl f k = true) : ∀ k, k < fs[f].code.length → (0 ≤ (fs[f].code.getD k default).a ∧ (fs[f].code.getD k default).a ≤ 100000) ∧ 0 ≤ (fs[f].code.getD k default).b ∧ (fs[f].code.getD k default).b ≤ 3 := fun k hk => by
  have p := fine_parts hf hk (h k hk)
  rw [getD_at0 hk]
  exact ⟨numbered_low hf hm p.1, left_low p.2.2.1⟩
theorem RightP.wf {fs : List Fn} {gs : List ByteArray} (R : RightP fs gs) {i : Nat} (hi : i < fs.length) : WF fs[i].code := fine_wf hi (R.some_ i hi) (fun k hk => R.fine i k hi hk)
end Go.Proofs.YtmecmlpoallpcaaGreatDoor

/- code.Right: nil just where a program is right. -/
namespace Go.Proofs.YtmecmlpoallpcaaGreatDoor
set_option linter.unusedVariables false
open Go.RowKit Go.Proofs.PeepPlain

/-- What code.Right answers. -/
def RightPost (fs : List Fn) (gs : List ByteArray) (w : World) (e : Ending) (w' : World) : Prop :=
  ((RightP fs gs ∧ e = .returned .nilIface) ∨ (¬ RightP fs gs ∧ ∃ g, e = .returned (.iface 59 (.pointer (some ⟨g, 0, none⟩))))) ∧ Below w.heap.size w w'
theorem right_bad {fs : List Fn} {gs : List ByteArray} {w w' : World} {e : Ending} (h : ¬ RightP fs gs) {g : Nat} (he : e = .returned (.iface 59 (.pointer (some ⟨g, 0, none⟩)))) (hb : Below w.heap.size w w') : RightPost fs gs w e w' := ⟨.inr ⟨h, g, he⟩, hb⟩
/-- What is handed in is small. -/
structure Small (fs : List Fn) (gs : List ByteArray) : Prop where
  nf : fs.length ≤ 2000000
  all : sumTo fs fs.length ≤ 2000000
  ng : gs.length ≤ 2000000
  names : ∀ j, (gs.getD j ByteArray.empty).size ≤ 2000000
  each : ∀ f ∈ fs, f.name.size ≤ 2000000 ∧ f.taken.length ≤ 2000000
  text : ∀ f ∈ fs, ∀ x ∈ f.code, x.text.size ≤ 2000000
def headsTo (fs : List Fn) (k : Nat) : Prop := ∀ i, i < k → headedB fs i (namesTo fs i) = true
def finesTo (fs : List Fn) (gl k : Nat) : Prop := ∀ i, (hi : i < fs.length) → i < k → fs[i].code.length ≠ 0 ∧ ∀ j, j < fs[i].code.length → fineB fs gl i j = true
def fineTo (fs : List Fn) (gl i k : Nat) : Prop := ∀ j, j < k → fineB fs gl i j = true
def fitsTo (fs : List Fn) (k : Nat) : Prop := ∀ i, (hi : i < fs.length) → i < k → PeepPlain.Fits E0 fs[i].code
theorem headsTo_succ {fs : List Fn} {k : Nat} (h : headsTo fs k) (hk : headedB fs k (namesTo fs k) = true) : headsTo fs (k + 1) := fun i hi => by
  by_cases e : i = k
  · subst e; exact hk
  · exact h i (by omega)
theorem fineTo_succ {fs : List Fn} {gl i k : Nat} (h : fineTo fs gl i k) (hk : fineB fs gl i k = true) : fineTo fs gl i (k + 1) := fun j hj => by
  by_cases e : j = k
  · subst e; exact hk
  · exact h j (by omega)
theorem finesTo_succ {fs : List Fn} {gl k : Nat} (hk : k < fs.length) (h : finesTo fs gl k) (h1 : fs[k].code.length ≠ 0) (h2 : fineTo fs gl k fs[k].code.length) : finesTo fs gl (k + 1) := fun i hi hik => by
  by_cases e : i = k
  · subst e; exact ⟨h1, h2⟩
  · exact h i hi (by omega)
theorem fitsTo_succ {fs : List Fn} {k : Nat} (hk : k < fs.length) (h : fitsTo fs k) (h1 : PeepPlain.Fits E0 fs[k].code) : fitsTo fs (k + 1) := fun i hi hik => by
  by_cases e : i = k
  · subst e; exact h1
  · exact h i hi (by omega)
def cellsV (f : Fn) : Value := .agg #[.string f.name, .int .i64 f.params, .int .i64 f.slots, .slice f.TA f.taken.length f.tc, .int .i64 f.around, .slice f.CA f.code.length f.cc]
set_option maxRecDepth 20000 in
set_option maxHeartbeats 8000000 in
theorem right_walk (fs : List Fn) (gs : List ByteArray) (A GA : Option Addr) (fc gc : Nat) (w : World) (hF : FnsAt w A fs) (hG : Lies w GA (gs.map Value.string)) (G : GlobP w) (hS : Small fs gs) :
    Calls Tryz.prog 18 #[.agg #[.slice A fs.length fc, .slice GA gs.length gc]] w (RightPost fs gs w) := by
  have HM := Lib.hid (fun (w1 : World) (hb : Below w.heap.size w w1) => many_walk fs A GA fc gs.length gc w1 (hF.below hb) hS.nf hS.all)
  have HGL := Lib.hid (fun (w1 : World) (hb : Below w.heap.size w w1) => globals_walk gs GA gc w1 (hG.below hb rfl) hS.ng hS.names (G.below hb))
  have HF0 := Lib.hid hF
  have HG0 := Lib.hid G
  have HS := Lib.hid hS
  have hmk := make51
  clear hF hG G hS
  go_enter Tryz.func18, Tryz.ntmps18
  go_wp2_with (go_at_call 36; refine (HM.out _ (below1 w _)).mono ?_)
  rintro en w2 ⟨hv, hb2⟩
  cases hmb : manyB fs gs.length
  · rw [hmb] at hv
    obtain ⟨c, f, g, nm, hg, rfl, hr⟩ := hv
    have HBAD := Lib.hid (show ¬ RightP fs gs from fun R => by rw [R.many] at hmb; cases hmb)
    have B2 := Lib.hid (below_more (below1 w _) hb2 (below1 w _).size)
    clear hb2 hr hg hmb
    go_wp2_with fail
    go_ret
    exact right_bad HBAD.out rfl B2.out
  · rw [hmb] at hv
    have e2 : en = .returned (.pointer none) := hv
    subst e2
    have HMB := Lib.hid hmb
    have hlen : fs.length ≤ 20000 := (many_are hmb).2.1
    have r2 := (Row.made w 25 [.slice A fs.length fc, .slice GA gs.length gc]).below hb2 (Row.made w 25 [.slice A fs.length fc, .slice GA gs.length gc]).lt
    have B2 := Lib.hid (below_more (below1 w _) hb2 (below1 w _).size)
    have hz2 := r2.lt
    have g0 := r2.cell 0
    have g1 := r2.cell 1
    have R2 := Lib.hid r2
    clear hb2 r2 hmb hv
    cases hgb : globalsB gs
    · have HBAD := Lib.hid (show ¬ RightP fs gs from fun R => by rw [R.globals] at hgb; cases hgb)
      have HGB := Lib.hid hgb
      clear hgb
      go_wp2_with (first
        | (go_at_call 37; refine (HGL.out _ B2.out).mono ?_; rw [HGB.out]; rintro en w3 ⟨rfl, hb3⟩; have B3 := Lib.hid (below_more B2.out hb3 B2.out.size); clear hb3)
        | (go_at_call 38; refine (wrong_low 130 _ _ (-1) (by omega)).mono ?_; rintro en w4 ⟨⟨g, nm, hg, rfl, hr⟩, hb4⟩; have B4 := Lib.hid (below_more B3.out hb4 B3.out.size); clear hb4 hr))
      go_ret
      exact right_bad HBAD.out rfl B4.out
    · have HGB := Lib.hid hgb
      clear hgb
      go_wp2_with (first
        | (go_at_call 37; refine (HGL.out _ B2.out).mono ?_; rw [HGB.out]; rintro en w3 ⟨rfl, hb3⟩; have B3 := Lib.hid (below_more B2.out hb3 B2.out.size); have r3 := R2.out.below hb3 R2.out.lt; have R3 := Lib.hid r3; have hz3 := r3.lt; have k0 := r3.cell 0; have k1 := r3.cell 1; clear hb3 r3 g0 g1))
      obtain ⟨m, hm⟩ : ∃ m, w3.heap.size = m := ⟨_, rfl⟩
      have CM : Hid (CountM (w3.alloc (.map #[] 0)) m []) := Lib.hid (hm ▸ count_made w3)
      have RM := Lib.hid (R3.out.alloc (.map #[] 0))
      have BM := Lib.hid (B3.out.alloc B3.out.size (.map #[] 0))
      have hmw : w.heap.size < m := by omega
      rw [hm]
      generalize w3.alloc (.map #[] 0) = w4 at CM RM BM
      clear hm hz3 k0 k1 R3 B3 hmk hz2 R2 B2
      go_loopw [2, 5, 28] (fun z2 z5 v wr => ∃ k : Nat, v = .int .i64 k ∧ z2 = .nilIface ∧ k ≤ fs.length ∧ Hid (headsTo fs k) ∧ Hid (CountM wr m (namesTo fs k)) ∧ Hid (Row wr w.heap.size 25 [.slice A fs.length fc, .slice GA gs.length gc]) ∧ Hid (Below w.heap.size w wr)) (fun _ _ v _ => fs.length - (intOf v).toNat)
      case atStart => exact ⟨0, rfl, rfl, Nat.zero_le _, Lib.hid (fun i h => by omega), CM, RM, BM⟩
      case round =>
        clear CM RM BM
        rename World => w5
        obtain ⟨k, rfl, rfl, hk, HT, HC, HR, HB⟩ := hrel
        have g0 := HR.out.cell 0
        have g1 := HR.out.cell 1
        have hz := HR.out.lt
        by_cases hlt : k < fs.length
        · have HD := Lib.hid (headed_walk fs A GA fc gs.length gc k m w w5 (HF0.out.below HB.out) HG0.out HB.out (Nat.le_of_lt hmw) hlt HS.out.nf (namesTo fs k) HC.out (Nat.le_trans (namesTo_le fs k) (by have := HS.out.nf; omega)) HS.out.each)
          cases hhb : headedB fs k (namesTo fs k)
          · rw [hhb] at HD
            have HBAD := Lib.hid (show ¬ RightP fs gs from fun R => by rw [R.heads k hlt] at hhb; cases hhb)
            clear hhb
            go_wp2_with (first
              | (go_at_call 39; refine HD.out.mono ?_; rintro en w6 ⟨rfl, hc6, hg6⟩; have B6 := Lib.hid (HB.out.grown hg6 HB.out.size (fun k h => by injection h with h; omega)); clear hc6 hg6 HD)
              | (go_at_call 38; refine (wrong_low 130 _ _ (-1) (by omega)).mono ?_; rintro en w7 ⟨⟨g, nm, hg, rfl, hr⟩, hb7⟩; have B7 := Lib.hid (below_more B6.out hb7 B6.out.size); clear hb7 hr))
            go_ret
            exact right_bad HBAD.out rfl B7.out
          · rw [hhb] at HD
            have HT2 := Lib.hid (headsTo_succ HT.out hhb)
            clear hhb
            go_wp2_with (go_at_call 39; refine HD.out.mono ?_; rintro en w6 ⟨rfl, hc6, hg6⟩; have C6 := Lib.hid hc6; have B6 := Lib.hid (HB.out.grown hg6 HB.out.size (fun k h => by injection h with h; omega)); have R6 := Lib.hid (HR.out.grown hg6 (by intro h; injection h with h; omega)); clear hc6 hg6 HD)
            go_roundw
            case rel => exact ⟨k + 1, by go_num, rfl, by omega, HT2, C6, R6, B6⟩
            case measure => simp [intOf]; omega
        · obtain rfl : k = fs.length := by omega
          clear HC hlt
          go_wp2_with fail
          have HEADS := Lib.hid HT.out
          go_loopw [2, 6, 7, 8, 43] (fun z2 z6 z7 z8 v wr => ∃ k : Nat, v = .int .i64 k ∧ z2 = .nilIface ∧ k ≤ fs.length ∧ Hid (finesTo fs gs.length k) ∧ Hid (Row wr w.heap.size 25 [.slice A fs.length fc, .slice GA gs.length gc]) ∧ Hid (Below w.heap.size w wr)) (fun _ _ _ _ v _ => fs.length - (intOf v).toNat)
          case atStart => exact ⟨0, rfl, rfl, Nat.zero_le _, Lib.hid (fun i _ h => by omega), HR, HB⟩
          case round =>
            clear HR HB g0 g1 hz HT
            rename World => w6
            obtain ⟨k, rfl, rfl, hk, HT, HR, HB⟩ := hrel
            have g0 := HR.out.cell 0
            have g1 := HR.out.cell 1
            have hz := HR.out.lt
            by_cases hlt : k < fs.length
            · have HF6 := Lib.hid (HF0.out.below HB.out)
              obtain ⟨b, off, rfl, hbl, hc⟩ := HF6.out.at_ (by omega)
              obtain ⟨c0, c1, c2, c3, c4, c5⟩ := hc k hlt
              have hi : (0 : Int) ≤ (k : Int) ∧ (k : Int) < (fs.length : Int) := by omega
              have hcl : fs[k].code.length ≤ 60000 := Nat.le_trans (code_le hlt) (many_are HMB.out).2.2.2.1
              have HTX := Lib.hid (HS.out.text fs[k] (List.getElem_mem hlt))
              have HSUC := Lib.hid (fun h1 h2 => finesTo_succ hlt HT.out h1 h2)
              have HFN := Lib.hid (fun (j : Nat) (hj : j < fs[k].code.length) (wr : World) (hb : Below w.heap.size w wr) => fine_walk fs (some ⟨b, off, none⟩) GA fc gs.length gc k j wr (HF0.out.below hb) (HG0.out.below hb) hlt (by omega) hj (by omega) (HS.out.text fs[k] (List.getElem_mem hlt) _ (List.getElem_mem hj)))
              obtain ⟨o, HO⟩ : ∃ o, Hid (fs[k] = o) := ⟨_, Lib.hid rfl⟩
              rw [HO.out] at c0 c1 c2 c3 c4 c5 hcl HTX HSUC HFN
              clear hc HT
              by_cases hnone : o.code.length = 0
              · have HBAD := Lib.hid (show ¬ RightP fs gs from fun R => R.some_ k hlt (by rw [HO.out]; exact hnone))
                rw [hnone] at c5
                clear hnone hcl
                go_wp2_with (first
                  | (go_at_call 38; refine (wrong_low 130 _ _ (-1) (by omega)).mono ?_; rintro en w7 ⟨⟨g, nm, hg, rfl, hr⟩, hb7⟩; have B7 := Lib.hid (below_next HB.out HB.out.size hb7); clear hb7 hr))
                go_ret
                exact right_bad HBAD.out rfl B7.out
              · have hne : ((o.code.length : Int) == 0) = false := beq_eq_false_iff_ne.2 (by omega)
                have HNE := Lib.hid hnone
                clear hnone
                go_wp2_with fail
                have RW := Lib.hid (HR.out.alloc (.cells #[.string o.name, .int .i64 o.params, .int .i64 o.slots, .slice o.TA o.taken.length o.tc, .int .i64 o.around, .slice o.CA o.code.length o.cc] 47))
                have BW := Lib.hid (HB.out.alloc HB.out.size (.cells #[.string o.name, .int .i64 o.params, .int .i64 o.slots, .slice o.TA o.taken.length o.tc, .int .i64 o.around, .slice o.CA o.code.length o.cc] 47))
                generalize w6.alloc (.cells #[.string o.name, .int .i64 o.params, .int .i64 o.slots, .slice o.TA o.taken.length o.tc, .int .i64 o.around, .slice o.CA o.code.length o.cc] 47) = w7 at RW BW ⊢
                clear c0 c1 c2 c3 c4 c5 g0 g1 hz HR HB HF6 hbl hne
                go_loopw [2, 8, 58] (fun z2 z8 v wr => ∃ j : Nat, v = .int .i64 j ∧ z2 = .nilIface ∧ j ≤ o.code.length ∧ Hid (fineTo fs gs.length k j) ∧ Hid (Row wr w.heap.size 25 [.slice (some ⟨b, off, none⟩) fs.length fc, .slice GA gs.length gc]) ∧ Hid (Below w.heap.size w wr)) (fun _ _ v _ => o.code.length - (intOf v).toNat)
                case atStart => exact ⟨0, rfl, rfl, Nat.zero_le _, Lib.hid (fun i h => by omega), RW, BW⟩
                case round =>
                  clear RW BW
                  rename World => w8
                  obtain ⟨j, rfl, rfl, hj, HTJ, HR, HB⟩ := hrel
                  have g0 := HR.out.cell 0
                  have g1 := HR.out.cell 1
                  have hz := HR.out.lt
                  by_cases hlj : j < o.code.length
                  · have HC := Lib.hid (HFN.out j hlj w8 HB.out)
                    cases hfb : fineB fs gs.length k j
                    · rw [hfb] at HC
                      have HBAD := Lib.hid (show ¬ RightP fs gs from fun R => by rw [R.fine k j hlt (by rw [HO.out]; exact hlj)] at hfb; cases hfb)
                      clear hfb
                      go_wp2_with (first
                        | (go_at_call 40; refine HC.out.mono ?_; rintro en w9 ⟨rfl, hb9⟩; have B9 := Lib.hid (below_more HB.out hb9 HB.out.size); clear hb9 HC)
                        | (go_at_call 38; refine (wrong_name 130 _ _ (j : Int) (by omega) (by omega) (HG0.out.below B9.out)).mono ?_; rintro en w10 ⟨⟨g, nm, hg, rfl, hr⟩, hb10⟩; have B10 := Lib.hid (below_more B9.out hb10 B9.out.size); clear hb10 hr))
                      go_ret
                      exact right_bad HBAD.out rfl B10.out
                    · rw [hfb] at HC
                      have HT2 := Lib.hid (fineTo_succ HTJ.out hfb)
                      clear hfb
                      go_wp2_with (go_at_call 40; refine HC.out.mono ?_; rintro en w9 ⟨rfl, hb9⟩; have B9 := Lib.hid (below_more HB.out hb9 HB.out.size); have R9 := Lib.hid (HR.out.below hb9 HR.out.lt); clear hb9 HC)
                      go_roundw
                      case rel => exact ⟨j + 1, by go_num, rfl, by omega, HT2, R9, B9⟩
                      case measure => simp [intOf]; omega
                  · obtain rfl : j = o.code.length := by omega
                    have HT2 := Lib.hid (HSUC.out HNE.out HTJ.out)
                    go_wp2_with fail
                    go_roundw
                    case rel => exact ⟨k + 1, by go_num, rfl, by omega, HT2, HR, HB⟩
                    case measure => simp [intOf]; omega
            · obtain rfl : k = fs.length := by omega
              have FINES := Lib.hid HT.out
              go_wp2_with fail
              clear HT hlt
              go_loopw [2, 9, 10, 11, 75] (fun z2 z9 z10 z11 v wr => ∃ k : Nat, v = .int .i64 k ∧ z2 = .nilIface ∧ k ≤ fs.length ∧ Hid (fitsTo fs k) ∧ Hid (Below w.heap.size w wr)) (fun _ _ _ _ v _ => fs.length - (intOf v).toNat)
              case atStart => exact ⟨0, rfl, rfl, Nat.zero_le _, Lib.hid (fun i _ h => by omega), HB⟩
              case round =>
                clear HR HB g0 g1 hz
                rename World => w7
                obtain ⟨k, rfl, rfl, hk, HT, HB⟩ := hrel
                by_cases hlt : k < fs.length
                · have HF7 := Lib.hid (HF0.out.below HB.out)
                  obtain ⟨b, off, rfl, hbl, hc⟩ := HF7.out.at_ (by omega)
                  obtain ⟨c0, c1, c2, c3, c4, c5⟩ := hc k hlt
                  have hi : (0 : Int) ≤ (k : Int) ∧ (k : Int) < (fs.length : Int) := by omega
                  have hcl : fs[k].code.length ≤ 60000 := Nat.le_trans (code_le hlt) (many_are HMB.out).2.2.2.1
                  have HFI := Lib.hid (fun (wr : World) (hb : Below w.heap.size w wr) => fits_walk fs[k].name fs[k].params fs[k].slots fs[k].around fs[k].TA fs[k].CA fs[k].taken.length fs[k].tc fs[k].cc fs[k].code wr (fine_wf hlt (FINES.out k hlt hlt).1 (FINES.out k hlt hlt).2) ((HF0.out.below hb).code _ (List.getElem_mem hlt)) (by omega) (fine_low hlt HMB.out (FINES.out k hlt hlt).2))
                  have HSUC := Lib.hid (fun h1 => fitsTo_succ hlt HT.out h1)
                  have HNOT := Lib.hid (show ¬ PeepPlain.Fits E0 fs[k].code → ¬ RightP fs gs from fun h R => h (R.fits k hlt))
                  generalize fs[k] = o at c0 c1 c2 c3 c4 c5 hcl HFI HSUC HNOT
                  clear hc hcl HT
                  go_wp2_with (go_at_call 41; refine (HFI.out _ (HB.out.alloc HB.out.size _)).mono ?_)
                  rintro en w8 ⟨⟨r, rfl, hr, hlow, hhigh⟩, hb8⟩
                  have B8 := Lib.hid (below_next HB.out HB.out.size hb8)
                  clear hb8
                  by_cases hr1 : r = -1
                  · have HT2 := Lib.hid (HSUC.out (hr.1 hr1))
                    subst hr1
                    clear hr hlow hhigh
                    go_wp2_with fail
                    go_roundw
                    case rel => exact ⟨k + 1, by go_num, rfl, by omega, HT2, B8⟩
                    case measure => simp [intOf]; omega
                  · have HBAD := Lib.hid (HNOT.out (fun h => hr1 (hr.2 h)))
                    have hr0 : 0 ≤ r := by omega
                    clear hr hlow hr1
                    go_wp2_with (first
                      | (go_at_call 38; refine (wrong_name 130 _ _ r hr0 (by omega) (HG0.out.below B8.out)).mono ?_; rintro en w10 ⟨⟨g, nm, hg, rfl, hr⟩, hb10⟩; have B10 := Lib.hid (below_more B8.out hb10 B8.out.size); clear hb10 hr))
                    go_ret
                    exact right_bad HBAD.out rfl B10.out
                · obtain rfl : k = fs.length := by omega
                  have HYES := Lib.hid (show RightP fs gs from ⟨HMB.out, HGB.out, HEADS.out, fun i hi => (FINES.out i hi hi).1, fun i j hi hj => (FINES.out i hi hi).2 j hj, fun i hi => HT.out i hi hi⟩)
                  go_wp2_with fail
                  go_ret
                  exact ⟨.inl ⟨HYES.out, rfl⟩, HB.out⟩
end Go.Proofs.YtmecmlpoallpcaaGreatDoor
