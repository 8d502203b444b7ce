/- Texts of this proof, put together: Headed, CountsW, HeadedB, HeadedC, StackD. -/
import Derived.Test.YtmecmlpoallpcaaGreatDoorM18
import Derived.Test.YtmecmlpoallpcaaGreatDoorM09
import Derived.Test.YtmecmlpoallpcaaGreatDoorM14
import Derived.Test.YtmecmlpoallpcaaGreatDoorM05
set_option linter.unusedSimpArgs false
/- code.headed: is a function's head right? -/
namespace Go.Proofs.YtmecmlpoallpcaaGreatDoor
set_option linter.unusedVariables false
open Go.RowKit Go.Proofs.PeepPlain

theorem two_blocks {B : Nat} {w0 w : World} (h : Below B w0 w) (hB : B ≤ w.heap.size) (X Y : Obj) : Below B w0 ((w.alloc X).alloc Y) := (h.alloc hB X).alloc (by show B ≤ (w.heap.push X).size; rw [Array.size_push]; omega) Y
theorem two_grown (w : World) (r : Option Nat) (X Y : Obj) : w.grownBy ((w.alloc X).alloc Y) r := (World.grownBy_alloc w X r).trans (World.grownBy_alloc _ Y r)
theorem grown_below {a w w' : World} {row : Option Nat} (h : a.grownBy w row) (hb : Below w.heap.size w w') : a.grownBy w' row :=
  h.trans ⟨hb.os, hb.tape, hb.output, hb.size, fun k hk _ => hb.block k hk⟩
theorem below_grown (w : World) {w' : World} (h : Below w.heap.size w w') (row : Option Nat) : w.grownBy w' row := ⟨h.os, h.tape, h.output, h.size, fun k hk _ => h.block k hk⟩
/-- A function's numbers of parameters and slots. -/
def paramsB (o : Fn) : Bool := decide (0 ≤ o.params) && decide (o.params ≤ 13) && decide (o.params ≤ o.slots)
set_option maxRecDepth 20000 in
theorem headed_params (fs : List Fn) (A GA : Option Addr) (fc gl gc i : Nat) (m : Nat) (w : World) (hF : FnsAt w A fs) (hi : i < fs.length) (hlen : fs.length ≤ 2000000) (o : Fn) (ho : fs[i] = o) (hp : paramsB o = false) :
    Calls Tryz.prog 39 #[.agg #[.slice A fs.length fc, .slice GA gl gc], .int .i64 i, .map (some m)] w fun e w' => e = .returned (.bool false) ∧ (∃ X Y, w' = (w.alloc X).alloc Y) := by
  obtain ⟨b, off, rfl, hb, hc⟩ := hF.at_ (by omega)
  obtain ⟨c0, c1, c2, c3, c4, c5⟩ := hc i hi
  rw [ho] at c0 c1 c2 c3 c4 c5
  clear hc ho hF
  unfold paramsB at hp
  by_cases h1 : o.params < 0
  · clear hp
    go_enter Tryz.func39, Tryz.ntmps39
    go_wp2_with fail
    go_ret
    exact ⟨rfl, _, _, rfl⟩
  · by_cases h2 : 13 < o.params
    · clear hp
      go_enter Tryz.func39, Tryz.ntmps39
      go_wp2_with fail
      go_ret
      exact ⟨rfl, _, _, rfl⟩
    · have h3 : o.slots < o.params := by
        rw [decide_eq_true (show 0 ≤ o.params by omega), decide_eq_true (show o.params ≤ 13 by omega), Bool.true_and, Bool.true_and] at hp
        have := of_decide_eq_false hp
        omega
      clear hp
      go_enter Tryz.func39, Tryz.ntmps39
      go_wp2_with fail
      go_ret
      exact ⟨rfl, _, _, rfl⟩
def headZero (o : Fn) : Bool := o.name.toList.isEmpty && decide (o.params = 0) && decide (o.taken.length = 0) && decide (o.around = -1)
theorem params_are {o : Fn} (hp : paramsB o = true) : ¬ o.params < 0 ∧ ¬ 13 < o.params ∧ ¬ o.slots < o.params := by
  unfold paramsB at hp
  rw [Bool.and_eq_true, Bool.and_eq_true] at hp
  have p1 := of_decide_eq_true hp.1.1
  have p2 := of_decide_eq_true hp.1.2
  have p3 := of_decide_eq_true hp.2
  omega
set_option maxRecDepth 20000 in
theorem headed_zero (fs : List Fn) (A GA : Option Addr) (fc gl gc : Nat) (m : Nat) (w : World) (hF : FnsAt w A fs) (hi : 0 < fs.length) (hlen : fs.length ≤ 2000000) (o : Fn) (ho : fs[0] = o) (hp : paramsB o = true) :
    Calls Tryz.prog 39 #[.agg #[.slice A fs.length fc, .slice GA gl gc], .int .i64 0, .map (some m)] w fun e w' => e = .returned (.bool (headZero o)) ∧ (∃ X Y, w' = (w.alloc X).alloc Y) := by
  obtain ⟨b, off, rfl, hb, hc⟩ := hF.at_ (by omega)
  obtain ⟨c0, c1, c2, c3, c4, c5⟩ := hc 0 hi
  rw [ho, Nat.zero_mul, Nat.add_zero] at c0 c1 c2 c3 c4 c5
  obtain ⟨q1, q2, q3⟩ := params_are hp
  clear hc ho hF hp
  unfold headZero
  cases hn : o.name.toList.isEmpty
  · go_enter Tryz.func39, Tryz.ntmps39
    go_wp2_with fail
    go_ret
    exact ⟨rfl, _, _, rfl⟩
  · by_cases h1 : o.params = 0
    · by_cases h2 : o.taken.length = 0
      · have h3 : ((o.taken.length : Nat) : Int) = 0 := by omega
        by_cases h4 : o.around = -1
        · rw [decide_eq_true h1, decide_eq_true h2, decide_eq_true h4]
          rw [h1] at c1 q1 q2 q3
          rw [h2] at c3
          rw [h4] at c4
          clear h1 h2 h3 h4
          go_enter Tryz.func39, Tryz.ntmps39
          go_wp2_with fail
          go_ret
          exact ⟨rfl, _, _, rfl⟩
        · rw [decide_eq_true h1, decide_eq_true h2, decide_eq_false h4]
          have h5 : (o.around == -1) = false := beq_eq_false_iff_ne.2 h4
          rw [h1] at c1 q1 q2 q3
          rw [h2] at c3
          clear h1 h2 h3 h4
          go_enter Tryz.func39, Tryz.ntmps39
          go_wp2_with fail
          go_ret
          exact ⟨rfl, _, _, rfl⟩
      · rw [decide_eq_false h2, Bool.and_false, Bool.false_and]
        have h3 : ((o.taken.length : Int) == 0) = false := beq_eq_false_iff_ne.2 (by omega)
        rw [h1] at c1 q1 q2 q3
        clear h1 h2
        go_enter Tryz.func39, Tryz.ntmps39
        go_wp2_with fail
        go_ret
        exact ⟨rfl, _, _, rfl⟩
    · rw [decide_eq_false h1, Bool.and_false, Bool.false_and, Bool.false_and]
      have h3 : (o.params == 0) = false := beq_eq_false_iff_ne.2 h1
      clear h1
      go_enter Tryz.func39, Tryz.ntmps39
      go_wp2_with fail
      go_ret
      exact ⟨rfl, _, _, rfl⟩
end Go.Proofs.YtmecmlpoallpcaaGreatDoor

/- A map from texts to numbers: look-up and store, as laws of the walk. -/
namespace Go.Proofs.YtmecmlpoallpcaaGreatDoor
set_option linter.unusedVariables false
open Go.RowKit Go.Proofs.PeepPlain
theorem look_c {ops : Array Oper} {rest : List Oper} {o : Oper} {a : Act} {Q : Exit → Act → World → Prop} (m k : Operand) (b : Nat) (s : ByteArray) (l : List ByteArray) (w : World)
    (hgd : o.guard = none) (ho : o.op = .lookup 51 m k false) (hm : a.eval m = .map (some b)) (hk : a.eval k = .string s) (hc : CountM w b l) (hs : s.size ≤ 2000000)
    (h : wpList Tryz.prog ops Q rest (a.put o.dst (.int .i64 (cnt s l : Nat))) w) : wpList Tryz.prog ops Q (o :: rest) a w := by
  refine wpList_plain hgd fun K' hK' => ?_
  have hrun := count_look hc hs
  unfold Oper.wp
  simp [execOp, ho, hm, hk, hrun, Result.andThen]
  exact hK' _ _ h
theorem put_c {ops : Array Oper} {rest : List Oper} {o : Oper} {a : Act} {Q : Exit → Act → World → Prop} (m k v : Operand) (b : Nat) (s : ByteArray) (l : List ByteArray) (w : World)
    (hgd : o.guard = none) (ho : o.op = .mapUpdate 51 m k v) (hm : a.eval m = .map (some b)) (hk : a.eval k = .string s) (hv : a.eval v = .int .i64 ((cnt s l : Nat) + 1)) (hc : CountM w b l) (hl : l.length ≤ 2000000) (hs : s.size ≤ 2000000)
    (h : ∀ w', CountM w' b (l ++ [s]) → w.grownBy w' (some b) → wpList Tryz.prog ops Q rest (a.put o.dst undef) w') : wpList Tryz.prog ops Q (o :: rest) a w := by
  refine wpList_plain hgd fun K' hK' => ?_
  obtain ⟨w', hrun, h1, h2⟩ := count_put hc hl hs
  unfold Oper.wp
  simp [execOp, ho, hm, hk, hv, hrun, Result.andThen]
  exact hK' _ _ (h w' h1 h2)
end Go.Proofs.YtmecmlpoallpcaaGreatDoor

/- code.headed: a declared function's head. -/
namespace Go.Proofs.YtmecmlpoallpcaaGreatDoor
set_option linter.unusedVariables false
open Go.RowKit Go.Proofs.PeepPlain

/-- A declared function's head, l: the names ahead of it. -/
def headDecl (o : Fn) (l : List ByteArray) : Bool := decide (o.taken.length = 0) && declaredB o.name && decide (cnt o.name l = 0)
theorem headed_prep {w w4 : World} {m : Nat} {p0 p1 v0 v1 v2 v3 v4 v5 : Value} (hm : m < w.heap.size) (hg : ((w.alloc (.cells #[p0, p1] 25)).alloc (.cells #[v0, v1, v2, v3, v4, v5] 47)).grownBy w4 (some m)) :
    Row w4 (w.heap.size + 1) 47 [v0, v1, v2, v3, v4, v5] ∧ w.grownBy w4 (some m) := by
  have hX1 : (w.alloc (.cells #[p0, p1] 25)).heap.size = w.heap.size + 1 := by show (w.heap.push _).size = _; rw [Array.size_push]
  have hr := Row.made (w.alloc (.cells #[p0, p1] 25)) 47 [v0, v1, v2, v3, v4, v5]
  rw [hX1] at hr
  exact ⟨hr.grown hg (by intro h; injection h; omega), (two_grown w (some m) _ _).trans hg⟩
set_option maxRecDepth 20000 in
set_option maxHeartbeats 2000000 in
theorem headed_decl (fs : List Fn) (A GA : Option Addr) (fc gl gc i : Nat) (m : Nat) (w0 w : World) (hF : FnsAt w A fs) (G : GlobP w0) (HB : Below w0.heap.size w0 w) (hBm : w0.heap.size ≤ m) (hi : i < fs.length) (h0 : 0 < i) (hlen : fs.length ≤ 2000000) (o : Fn) (ho : fs[i] = o) (hp : paramsB o = true) (ha : o.around = -1) (l : List ByteArray) (HC : CountM w m l) (hl : l.length ≤ 2000000) (hs : o.name.size ≤ 2000000) :
    Calls Tryz.prog 39 #[.agg #[.slice A fs.length fc, .slice GA gl gc], .int .i64 i, .map (some m)] w fun e w' => e = .returned (.bool (headDecl o l)) ∧ CountM w' m (l ++ [o.name]) ∧ w.grownBy w' (some m) := by
  obtain ⟨b, off, rfl, hb, hc⟩ := hF.at_ (by omega)
  obtain ⟨c0, c1, c2, c3, c4, c5⟩ := hc i hi
  rw [ho] at c0 c1 c2 c3 c4 c5
  rw [ha] at c4
  obtain ⟨q1, q2, q3⟩ := params_are hp
  have hm := HC.lt
  have HH : Hid (headDecl o l = (decide (o.taken.length = 0) && declaredB o.name && decide (cnt o.name l = 0))) := Lib.hid rfl
  have HC0 := Lib.hid HC
  have HS := Lib.hid hs
  have HL := Lib.hid hl
  have HG := Lib.hid (fun w4 (hg : w.grownBy w4 (some m)) => G.below (HB.grown hg HB.size (fun k h => by injection h with h; omega)))
  obtain ⟨D, hD⟩ : ∃ D, cnt o.name l = D := ⟨_, rfl⟩
  have hDl : D ≤ 2000000 := by rw [← hD]; have := cnt_le o.name l; omega
  have hL4 : cnt o.name (l ++ [o.name]) = D + 1 := by rw [cnt_snoc, hD, if_pos rfl]
  have HL4 := Lib.hid hL4
  have HD := Lib.hid hD
  have hi0 : ((i : Int) == 0) = false := beq_eq_false_iff_ne.2 (by omega)
  have hwr : wrap64 ((D : Int) + 1) = (D : Int) + 1 := by unfold wrap64; omega
  clear hc ho hF hp HC G HB hBm hs hl hL4 hD ha
  generalize o.name = nm at *
  generalize o.params = pr at *
  generalize o.slots = sl at *
  generalize o.taken.length = tl at *
  by_cases h2 : tl = 0
  · subst h2
    cases hdb : declaredB nm
    · have HV := Lib.hid (show headDecl o l = false by rw [HH.out, hdb, Bool.and_false, Bool.false_and])
      have HDB := Lib.hid hdb
      clear hdb
      go_enter Tryz.func39, Tryz.ntmps39
      go_wp2_with (first
        | (at_lookup; refine look_c (.tmp 55) (.tmp 57) m nm l _ rfl rfl rfl rfl ((HC0.out.alloc _).alloc _) HS.out ?_; rw [HD.out])
        | (refine put_c (.tmp 55) (.tmp 57) (.tmp 59) m nm l _ rfl rfl rfl rfl (by rw [HD.out]; rfl) ((HC0.out.alloc _).alloc _) (by have := HL.out; omega) HS.out ?_
           intro w4 hc4 hg4
           go_must (obtain ⟨hr4, hgr4⟩ := headed_prep hm hg4)
           have hz4 := hr4.lt
           have d0 := hr4.cell 0
           have d3 := hr4.cell 3
           have C4 := Lib.hid hc4
           have R4 := Lib.hid hr4
           have GR4 := Lib.hid hgr4
           have G4 := Lib.hid (HG.out w4 hgr4)
           clear hc4 hg4 hr4 hgr4)
        | (go_at_call 67; refine (declared_walk nm _ HS.out G4.out).mono ?_; rw [HDB.out]; rintro en w5 ⟨rfl, hb5⟩
           have B5 := Lib.hid hb5
           have C5 := Lib.hid (C4.out.below hb5 C4.out.lt)
           have hl5 := count_look C5.out HS.out
           rw [HL4.out] at hl5
           have r5 := R4.out.below hb5 R4.out.lt
           have e0 := r5.cell 0
           have hz5 := r5.lt
           clear hb5 r5 d0 d3))
      go_ret
      exact ⟨ret_bool HV.out, C5.out, grown_below GR4.out B5.out⟩
    · have HDB := Lib.hid hdb
      by_cases hd : D = 0
      · have HV := Lib.hid (show headDecl o l = true by rw [HH.out, hdb, HD.out, hd]; rfl)
        subst hd
        clear hdb
        go_enter Tryz.func39, Tryz.ntmps39
        go_wp2_with (first
          | (at_lookup; refine look_c (.tmp 55) (.tmp 57) m nm l _ rfl rfl rfl rfl ((HC0.out.alloc _).alloc _) HS.out ?_; rw [HD.out])
          | (refine put_c (.tmp 55) (.tmp 57) (.tmp 59) m nm l _ rfl rfl rfl rfl (by rw [HD.out]; rfl) ((HC0.out.alloc _).alloc _) (by have := HL.out; omega) HS.out ?_
             intro w4 hc4 hg4
             go_must (obtain ⟨hr4, hgr4⟩ := headed_prep hm hg4)
             have hz4 := hr4.lt
             have d0 := hr4.cell 0
             have d3 := hr4.cell 3
             have C4 := Lib.hid hc4
             have R4 := Lib.hid hr4
             have GR4 := Lib.hid hgr4
             have G4 := Lib.hid (HG.out w4 hgr4)
             clear hc4 hg4 hr4 hgr4)
          | (go_at_call 67; refine (declared_walk nm _ HS.out G4.out).mono ?_; rw [HDB.out]; rintro en w5 ⟨rfl, hb5⟩
             have B5 := Lib.hid hb5
             have C5 := Lib.hid (C4.out.below hb5 C4.out.lt)
             have hl5 := count_look C5.out HS.out
             rw [HL4.out] at hl5
             have r5 := R4.out.below hb5 R4.out.lt
             have e0 := r5.cell 0
             have hz5 := r5.lt
             clear hb5 r5 d0 d3))
        go_ret
        exact ⟨ret_bool HV.out, C5.out, grown_below GR4.out B5.out⟩
      · have HV := Lib.hid (show headDecl o l = false by rw [HH.out, HD.out, decide_eq_false hd, Bool.and_false])
        have hd2 : ((D : Int) == 0) = false := beq_eq_false_iff_ne.2 (by omega)
        have hd3 : ((D : Int) + 1 == 1) = false := beq_eq_false_iff_ne.2 (by omega)
        clear hdb
        go_enter Tryz.func39, Tryz.ntmps39
        go_wp2_with (first
          | (at_lookup; refine look_c (.tmp 55) (.tmp 57) m nm l _ rfl rfl rfl rfl ((HC0.out.alloc _).alloc _) HS.out ?_; rw [HD.out])
          | (refine put_c (.tmp 55) (.tmp 57) (.tmp 59) m nm l _ rfl rfl rfl rfl (by rw [HD.out]; rfl) ((HC0.out.alloc _).alloc _) (by have := HL.out; omega) HS.out ?_
             intro w4 hc4 hg4
             go_must (obtain ⟨hr4, hgr4⟩ := headed_prep hm hg4)
             have hz4 := hr4.lt
             have d0 := hr4.cell 0
             have d3 := hr4.cell 3
             have C4 := Lib.hid hc4
             have R4 := Lib.hid hr4
             have GR4 := Lib.hid hgr4
             have G4 := Lib.hid (HG.out w4 hgr4)
             clear hc4 hg4 hr4 hgr4)
          | (go_at_call 67; refine (declared_walk nm _ HS.out G4.out).mono ?_; rw [HDB.out]; rintro en w5 ⟨rfl, hb5⟩
             have B5 := Lib.hid hb5
             have C5 := Lib.hid (C4.out.below hb5 C4.out.lt)
             have hl5 := count_look C5.out HS.out
             rw [HL4.out] at hl5
             have r5 := R4.out.below hb5 R4.out.lt
             have e0 := r5.cell 0
             have hz5 := r5.lt
             clear hb5 r5 d0 d3))
        go_ret
        exact ⟨ret_bool HV.out, C5.out, grown_below GR4.out B5.out⟩
  · have h3 : ((tl : Int) == 0) = false := beq_eq_false_iff_ne.2 (by omega)
    have HV := Lib.hid (show headDecl o l = false by rw [HH.out, decide_eq_false h2, Bool.false_and, Bool.false_and])
    clear h2
    go_enter Tryz.func39, Tryz.ntmps39
    go_wp2_with (first
      | (at_lookup; refine look_c (.tmp 55) (.tmp 57) m nm l _ rfl rfl rfl rfl ((HC0.out.alloc _).alloc _) HS.out ?_; rw [HD.out])
      | (refine put_c (.tmp 55) (.tmp 57) (.tmp 59) m nm l _ rfl rfl rfl rfl (by rw [HD.out]; rfl) ((HC0.out.alloc _).alloc _) (by have := HL.out; omega) HS.out ?_
         intro w4 hc4 hg4
         go_must (obtain ⟨hr4, hgr4⟩ := headed_prep hm hg4)
         have hz4 := hr4.lt
         have d0 := hr4.cell 0
         have d3 := hr4.cell 3
         have C4 := Lib.hid hc4
         have R4 := Lib.hid hr4
         have GR4 := Lib.hid hgr4
         have G4 := Lib.hid (HG.out w4 hgr4)
         clear hc4 hg4 hr4 hgr4))
    go_ret
    exact ⟨ret_bool HV.out, C4.out, GR4.out⟩
end Go.Proofs.YtmecmlpoallpcaaGreatDoor

/- code.headed: a literal's head; the contract. -/
namespace Go.Proofs.YtmecmlpoallpcaaGreatDoor
set_option linter.unusedVariables false
open Go.RowKit Go.Proofs.PeepPlain

theorem getD_at0 {α : Type} {l : List α} {i : Nat} (hi : i < l.length) (d : α) : l.getD i d = l[i] := by rw [List.getD_eq_getElem?_getD, List.getElem?_eq_getElem hi, Option.getD_some]
/-- A literal's head. -/
def headFunc (fs : List Fn) (i : Nat) (o : Fn) : Bool := decide (o.name = ⟨#[102, 117, 110, 99]⟩) && decide (0 ≤ o.around) && decide (o.around < i) && !o.taken.any (outB (fs.getD o.around.toNat default).slots (fs.getD o.around.toNat default).taken.length)
theorem below3b (w : World) (X Y Z : Obj) : Below w.heap.size w (((w.alloc X).alloc Y).alloc Z) := (two_blocks (Below.refl _ _) (Nat.le_refl _) X Y).alloc (two_blocks (Below.refl _ _) (Nat.le_refl _) X Y).size Z
theorem contains_at (o p : Fn) (w : World) (hL : Lies w o.TA (o.taken.map (Value.int .i64))) (hl : o.taken.length ≤ 2000000) (hp : p.taken.length ≤ 2000000) (X Y : Obj) :
    Calls Tryz.prog 68 #[.slice o.TA o.taken.length o.tc, .func (Fn.func 69) #[] #[.pointer (some ⟨w.heap.size + 1 + 1, 0, none⟩)]] (((w.alloc X).alloc Y).alloc (.cells #[.string p.name, .int .i64 p.params, .int .i64 p.slots, .slice p.TA p.taken.length p.tc, .int .i64 p.around, .slice p.CA p.code.length p.cc] 47)) fun e w' => e = .returned (.bool (o.taken.any (outB p.slots p.taken.length))) ∧ w' = ((w.alloc X).alloc Y).alloc (.cells #[.string p.name, .int .i64 p.params, .int .i64 p.slots, .slice p.TA p.taken.length p.tc, .int .i64 p.around, .slice p.CA p.code.length p.cc] 47) := by
  have hs : ((w.alloc X).alloc Y).heap.size = w.heap.size + 1 + 1 := by show ((w.heap.push X).push Y).size = _; rw [Array.size_push, Array.size_push]
  have r := Row.made ((w.alloc X).alloc Y) 47 [.string p.name, .int .i64 p.params, .int .i64 p.slots, .slice p.TA p.taken.length p.tc, .int .i64 p.around, .slice p.CA p.code.length p.cc]
  rw [hs] at r
  exact contains_walk o.taken o.TA o.tc p.slots p.TA p.taken.length p.tc (w.heap.size + 1 + 1) _ (hL.below (below3b w X Y _) rfl) hl (r.cell 2) (r.cell 3) hp
set_option maxRecDepth 20000 in
set_option maxHeartbeats 2000000 in
theorem headed_func (fs : List Fn) (A GA : Option Addr) (fc gl gc i : Nat) (m : Nat) (w : World) (hF : FnsAt w A fs) (hi : i < fs.length) (h0 : 0 < i) (hlen : fs.length ≤ 2000000) (o : Fn) (ho : fs[i] = o) (hp : paramsB o = true) (ha : o.around ≠ -1) (htl : ∀ f ∈ fs, f.taken.length ≤ 2000000) :
    Calls Tryz.prog 39 #[.agg #[.slice A fs.length fc, .slice GA gl gc], .int .i64 i, .map (some m)] w fun e w' => e = .returned (.bool (headFunc fs i o)) ∧ Below w.heap.size w w' := by
  have HF := Lib.hid hF
  have HTL := Lib.hid htl
  obtain ⟨b, off, rfl, hb, hc⟩ := hF.at_ (by omega)
  obtain ⟨c0, c1, c2, c3, c4, c5⟩ := hc i hi
  have hom : o ∈ fs := ho ▸ List.getElem_mem hi
  have HLI := Lib.hid (hF.taken o hom)
  have HLO := Lib.hid (htl o hom)
  rw [ho] at c0 c1 c2 c3 c4 c5
  obtain ⟨q1, q2, q3⟩ := params_are hp
  have hi0 : ((i : Int) == 0) = false := beq_eq_false_iff_ne.2 (by omega)
  have ha0 : (o.around == -1) = false := beq_eq_false_iff_ne.2 ha
  have HH : Hid (headFunc fs i o = (decide (o.name = ⟨#[102, 117, 110, 99]⟩) && decide (0 ≤ o.around) && decide (o.around < i) && !o.taken.any (outB (fs.getD o.around.toNat default).slots (fs.getD o.around.toNat default).taken.length))) := Lib.hid rfl
  have HCC := Lib.hid hc
  clear hc ho hF hp ha htl
  by_cases hn : o.name = ⟨#[102, 117, 110, 99]⟩
  · rw [hn] at c0
    by_cases h1 : o.around < 0
    · have HV := Lib.hid (show headFunc fs i o = false by rw [HH.out, decide_eq_false (show ¬ 0 ≤ o.around by omega), Bool.and_false, Bool.false_and, Bool.false_and])
      clear hn
      go_enter Tryz.func39, Tryz.ntmps39
      go_wp2_with fail
      go_ret
      exact ⟨ret_bool HV.out, two_blocks (Below.refl _ _) (Nat.le_refl _) _ _⟩
    · by_cases h2 : (i : Int) ≤ o.around
      · have HV := Lib.hid (show headFunc fs i o = false by rw [HH.out, decide_eq_false (show ¬ o.around < i by omega), Bool.and_false, Bool.false_and])
        clear hn
        go_enter Tryz.func39, Tryz.ntmps39
        go_wp2_with fail
        go_ret
        exact ⟨ret_bool HV.out, two_blocks (Below.refl _ _) (Nat.le_refl _) _ _⟩
      · obtain ⟨j, hj⟩ : ∃ j : Nat, o.around = (j : Int) := ⟨o.around.toNat, by omega⟩
        have hjl : j < fs.length := by omega
        obtain ⟨e0, e1, e2, e3, e4, e5⟩ := HCC.out j hjl
        have hgd : fs.getD o.around.toNat default = fs[j] := by rw [hj, Int.toNat_natCast, getD_at0 hjl]
        have HTJ := Lib.hid (HTL.out _ (List.getElem_mem hjl))
        have hji : (0 : Int) ≤ (j : Int) ∧ (j : Int) < (fs.length : Int) := by omega
        have HV := Lib.hid (show headFunc fs i o = !o.taken.any (outB fs[j].slots fs[j].taken.length) by rw [HH.out, decide_eq_true hn, decide_eq_true (show 0 ≤ o.around by omega), decide_eq_true (show o.around < i by omega), hgd]; rfl)
        rw [hj] at c4 ha0 h1 h2
        clear hn hj hgd HH HCC HTL HF
        generalize fs[j] = p at *
        have HX := Lib.hid (contains_at o p w HLI.out HLO.out HTJ.out)
        generalize o.taken.any (outB p.slots p.taken.length) = r at HV HX
        go_enter Tryz.func39, Tryz.ntmps39
        go_wp2_with (go_at_call 68; refine (HX.out _ _).mono ?_; rintro en w2 ⟨rfl, rfl⟩)
        go_ret
        exact ⟨ret_bool HV.out, below3b w _ _ _⟩
  · have HV := Lib.hid (show headFunc fs i o = false by rw [HH.out, decide_eq_false hn, Bool.false_and, Bool.false_and, Bool.false_and])
    have hn2 : (o.name.toList == [102, 117, 110, 99]) = false := beq_eq_false_iff_ne.2 (fun h => hn (ByteArray.ext (Array.toList_inj.1 (by rw [ByteArray.toList_eq] at h; exact h))))
    clear hn
    go_enter Tryz.func39, Tryz.ntmps39
    go_wp2_with fail
    go_ret
    exact ⟨ret_bool HV.out, two_blocks (Below.refl _ _) (Nat.le_refl _) _ _⟩
def headedB (fs : List Fn) (i : Nat) (l : List ByteArray) : Bool :=
  paramsB (fs.getD i default) && if i = 0 then headZero (fs.getD i default) else if (fs.getD i default).around = -1 then headDecl (fs.getD i default) l else headFunc fs i (fs.getD i default)
/-- The names behind it. -/
def headNames (fs : List Fn) (i : Nat) (l : List ByteArray) : List ByteArray :=
  if paramsB (fs.getD i default) = true ∧ i ≠ 0 ∧ (fs.getD i default).around = -1 then l ++ [(fs.getD i default).name] else l
theorem headNames_le (fs : List Fn) (i : Nat) (l : List ByteArray) : (headNames fs i l).length ≤ l.length + 1 := by
  unfold headNames
  split <;> simp
/-- The contract of code.headed. -/
theorem headed_walk (fs : List Fn) (A GA : Option Addr) (fc gl gc i : Nat) (m : Nat) (w0 w : World) (hF : FnsAt w A fs) (G : GlobP w0) (HB : Below w0.heap.size w0 w) (hBm : w0.heap.size ≤ m) (hi : i < fs.length) (hlen : fs.length ≤ 2000000) (l : List ByteArray) (HC : CountM w m l) (hl : l.length ≤ 2000000) (hs : ∀ f ∈ fs, f.name.size ≤ 2000000 ∧ f.taken.length ≤ 2000000) :
    Calls Tryz.prog 39 #[.agg #[.slice A fs.length fc, .slice GA gl gc], .int .i64 i, .map (some m)] w fun e w' => e = .returned (.bool (headedB fs i l)) ∧ CountM w' m (headNames fs i l) ∧ w.grownBy w' (some m) := by
  have hg := getD_at0 hi default
  unfold headedB headNames
  rw [hg]
  cases hp : paramsB fs[i]
  · refine (headed_params fs A GA fc gl gc i m w hF hi hlen fs[i] rfl hp).mono ?_
    rintro e w' ⟨rfl, X, Y, rfl⟩
    rw [Bool.false_and, if_neg (fun h => Bool.false_ne_true h.1)]
    exact ⟨rfl, (HC.alloc X).alloc Y, two_grown w _ X Y⟩
  · rw [Bool.true_and]
    by_cases h0 : i = 0
    · subst h0
      refine (headed_zero fs A GA fc gl gc m w hF hi hlen fs[0] rfl hp).mono ?_
      rintro e w' ⟨rfl, X, Y, rfl⟩
      rw [if_pos rfl, if_neg (fun h => h.2.1 rfl)]
      exact ⟨rfl, (HC.alloc X).alloc Y, two_grown w _ X Y⟩
    · rw [if_neg h0]
      by_cases ha : fs[i].around = -1
      · rw [if_pos ha, if_pos ⟨rfl, h0, ha⟩]
        exact headed_decl fs A GA fc gl gc i m w0 w hF G HB hBm hi (by omega) hlen fs[i] rfl hp ha l HC hl (hs _ (List.getElem_mem hi)).1
      · rw [if_neg ha, if_neg (fun h => ha h.2.2)]
        refine (headed_func fs A GA fc gl gc i m w hF hi (by omega) hlen fs[i] rfl hp ha (fun f hf => (hs f hf).2)).mono ?_
        rintro e w' ⟨rfl, hb⟩
        exact ⟨rfl, HC.below hb HC.lt, below_grown w hb _⟩
/-- The names ahead of function k. -/
def namesTo (fs : List Fn) : Nat → List ByteArray
  | 0 => []
  | k + 1 => headNames fs k (namesTo fs k)
theorem namesTo_le (fs : List Fn) (k : Nat) : (namesTo fs k).length ≤ k := by
  induction k with
  | zero => simp [namesTo]
  | succ k ih => have := headNames_le fs k (namesTo fs k); show (headNames fs k (namesTo fs k)).length ≤ _; omega
end Go.Proofs.YtmecmlpoallpcaaGreatDoor

/- code.stack.with: a stack with one more. -/
namespace Go.Proofs.YtmecmlpoallpcaaGreatDoor
set_option linter.unusedVariables false
open Go.RowKit Go.Proofs.PeepPlain

theorem index_vpt (i : Nat) (hi : i < 3) : Lib.indexByte [118, 112, 116] (kindOf i).toNat.toUInt8 = (i : Int) := by
  have : i = 0 ∨ i = 1 ∨ i = 2 := by omega
  rcases this with rfl | rfl | rfl <;> rfl
theorem index_at (i : Nat) (hi : i < 3) (w : World) : Calls Tryz.prog 143 #[.string ⟨#[118, 112, 116]⟩, .int .u8 (kindOf i)] w fun e w' => e = .returned (.int .i64 i) ∧ w' = w := by
  refine (Tryz.strings_IndexByte _ _ _).mono ?_
  rintro e w' ⟨rfl, rfl⟩
  exact ⟨by rw [← index_vpt i hi], rfl⟩
theorem on_cell {w : World} {R : Rep} {g : Nat} {s : List Int} {bl o0 o1 o2 : Option Addr} (h : Node w R g s bl o0 o1 o2) (i : Nat) (hi : i < 3) : w.cell? ⟨g, 3 + i, none⟩ = some (.pointer (onOf i o0 o1 o2)) := by
  rw [h.row.cell]
  have : i = 0 ∨ i = 1 ∨ i = 2 := by omega
  rcases this with rfl | rfl | rfl <;> rfl
theorem on_ok {w : World} {R : Rep} {g : Nat} {s : List Int} {bl o0 o1 o2 : Option Addr} (h : Node w R g s bl o0 o1 o2) (i : Nat) (hi : i < 3) : OnOk R (onOf i o0 o1 o2) (kindOf i :: s) := by
  have : i = 0 ∨ i = 1 ∨ i = 2 := by omega
  rcases this with rfl | rfl | rfl
  · exact h.on0
  · exact h.on1
  · exact h.on2
theorem build106 (c n : Int) (p : Option Addr) (w : World) : (Instr.build 106 #[(0, .int .u8 c), (1, .pointer p), (2, .int .i64 n)]).run Tryz.prog w = .ok (.agg #[.int .u8 c, .pointer p, .int .i64 n, .pointer none, .pointer none, .pointer none]) w := by kernel_rfl
set_option maxHeartbeats 4000000 in
theorem with_walk (B : Nat) (R : Rep) (g : Nat) (s : List Int) (i : Nat) (hi : i < 3) (w : World) (H : Nodes B w R) (hg : R g = some s) (hs : s.length ≤ 1000000) (hB : B ≤ w.heap.size) :
    Calls Tryz.prog 113 #[.pointer (some ⟨g, 0, none⟩), .int .u8 (kindOf i)] w fun e w' => ∃ h R', e = .returned (.pointer (some ⟨h, 0, none⟩)) ∧ R' h = some (kindOf i :: s) ∧ Nodes B w' R' ∧ Grew R w R' w' := by
  obtain ⟨bl, o0, o1, o2, hn⟩ := H.node g s hg
  have k2 : w.cell? ⟨g, 2, none⟩ = some (.int .i64 s.length) := hn.row.cell 2
  have kf := hn.row.free (3 + i)
  have ki := on_cell hn i hi
  have HH := Lib.hid H
  have HG := Lib.hid hg
  have HN := Lib.hid hn
  have HO := Lib.hid (on_ok hn i hi)
  have hix := index_at i hi
  have hgl := hn.row.lt
  have hgn : g ≠ w.heap.size := by omega
  have hi2 : (0 : Int) ≤ (i : Int) ∧ (i : Int) < 3 := by omega
  obtain ⟨o, ho⟩ : ∃ o, o = onOf i o0 o1 o2 := ⟨_, rfl⟩
  rw [← ho] at ki HO
  have HOE := Lib.hid ho
  obtain ⟨c, hc⟩ : ∃ c, c = kindOf i := ⟨_, rfl⟩
  rw [← hc] at hix HO ⊢
  have HC := Lib.hid hc
  clear H hg hn ho hc
  cases o with
  | none =>
    go_enter Tryz.func113, Tryz.ntmps113
    go_wp2_with (first
      | (go_at_call 143; refine (hix _).mono ?_; rintro en w2 ⟨rfl, rfl⟩))
    have hb := build106 c ((s.length : Int) + 1) (some ⟨g, 0, none⟩)
    have hw : IntKind.i64.wrap ((s.length : Int) + 1) = (s.length : Int) + 1 := IntWalk.i64_in _ (by omega)
    go_region
    have hst := with_world HH.out HG.out HN.out i hi HOE.out hB c HC.out _ rfl
    obtain ⟨h1, h2, h3⟩ := hst
    have H1 := Lib.hid h1
    have H2 := Lib.hid h2
    clear h1 h2
    generalize (World.alloc _ _).drew = W at H1 H2 h3 ⊢
    go_wp2_with fail
    go_ret
    exact ⟨w2.heap.size, withRep R w2.heap.size (kindOf i :: s), rfl, by unfold withRep; rw [if_pos rfl, HC.out], H1.out, H2.out⟩
  | some a =>
    rcases HO.out with ⟨e, _⟩ | ⟨h, e, hh⟩
    · cases e
    · obtain rfl := Option.some.inj e
      have HR := Lib.hid hh
      clear hh e
      go_enter Tryz.func113, Tryz.ntmps113
      go_wp2_with (first
        | (go_at_call 143; refine (hix _).mono ?_; rintro en w2 ⟨rfl, rfl⟩))
      go_ret
      exact ⟨h, R, rfl, HR.out, HH.out, Grew.refl _ _⟩
end Go.Proofs.YtmecmlpoallpcaaGreatDoor
