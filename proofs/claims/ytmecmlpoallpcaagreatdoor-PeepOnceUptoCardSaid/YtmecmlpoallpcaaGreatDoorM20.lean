/- Texts of this proof, put together: Leaves, Hand. -/
import Derived.Test.YtmecmlpoallpcaaGreatDoorM19
import Derived.LaidEqlPtr
set_option linter.all false
/- code.leaves: the stacks that an instruction leaves. -/
namespace Go.Proofs.YtmecmlpoallpcaaGreatDoor
set_option linter.unusedVariables false
open Go.RowKit Go.Proofs.PeepPlain

def takesOk (f : PeepPlain.Form) : Bool := (bytesOf f.takes).all fun c => decide (c ≠ 0)
def laysOk (f : PeepPlain.Form) : Bool := (bytesOf f.lays).all fun c => c == 118 || c == 112 || c == 116
theorem forms_ok (op : Int) : takesOk (formOf op) = true ∧ laysOk (formOf op) = true ∧ (formOf op).takes.size ≤ 4 ∧ (formOf op).lays.size ≤ 4 := by
  by_cases h : 1 ≤ op ∧ op ≤ 53
  · obtain ⟨k, rfl⟩ : ∃ k : Nat, op = k := ⟨op.toNat, by omega⟩
    have hk : k < 54 := by omega
    have : ∀ k : Fin 54, takesOk (formOf (k.val : Int)) = true ∧ laysOk (formOf (k.val : Int)) = true ∧ (formOf (k.val : Int)).takes.size ≤ 4 ∧ (formOf (k.val : Int)).lays.size ≤ 4 := by decide
    exact this ⟨k, hk⟩
  · rw [form_off (by omega)]
    decide
theorem bytes_length (s : ByteArray) : (bytesOf s).length = s.size := by simp [bytesOf]
theorem bytes_at {s : ByteArray} {k : Nat} (h : k < s.size) : (bytesOf s)[k]? = some (s[k].toNat : Int) := by
  unfold bytesOf
  rw [List.getElem?_map, List.getElem?_eq_getElem (by simpa using h)]
  rfl
theorem take_rev {l : List Int} {k : Nat} {c : Int} (h : l[k]? = some c) : (l.take (k + 1)).reverse = c :: (l.take k).reverse := by
  rw [List.take_add_one, h]
  simp
theorem drop_at {l : List Int} {k : Nat} {c : Int} (h : l[k]? = some c) : l.drop k = c :: l.drop (k + 1) := by
  obtain ⟨hk, e⟩ := List.getElem?_eq_some_iff.1 h
  rw [List.drop_eq_getElem_cons hk, e]
theorem kind_of {c : Int} (h : (c == 118 || c == 112 || c == 116) = true) : ∃ i, i < 3 ∧ c = kindOf i := by
  simp only [Bool.or_eq_true, beq_iff_eq] at h
  rcases h with (h | h) | h
  · exact ⟨0, by omega, h⟩
  · exact ⟨1, by omega, h⟩
  · exact ⟨2, by omega, h⟩
/-- What leaves tells. -/
def Left (R' : Rep) (o1 o2 : Option Addr) (r : Option (List Int × List Int)) : Prop := match r with
  | none => o1 = none
  | some r => OptPt R' o1 (some r.1) ∧ OptPt R' o2 (some r.2)
/-- The post of leaves. -/
def LeavesPost (B : Nat) (R : Rep) (w : World) (r : Option (List Int × List Int)) (e : Ending) (w' : World) : Prop := ∃ o1 o2 R', e = .returned (.tuple #[.pointer o1, .pointer o2]) ∧ Nodes B w' R' ∧ Grew R w R' w' ∧ Left R' o1 o2 r
theorem leaves_mk {B : Nat} {R : Rep} {w w' : World} {r : Option (List Int × List Int)} (o1 o2 : Option Addr) (R' : Rep) (h1 : Nodes B w' R') (h2 : Grew R w R' w') (h3 : Left R' o1 o2 r) : LeavesPost B R w r (.returned (.tuple #[.pointer o1, .pointer o2])) w' := ⟨o1, o2, R', rfl, h1, h2, h3⟩
theorem eff_def (x : Ins) (s : List Int) (F : PeepPlain.Form) (hF : formOf x.op = F) : effOf x s = (lessN (counted x).1 (counted x).2.toNat s).bind fun s1 => (lessL (bytesOf F.takes).reverse s1).bind fun s2 => (layL (bytesOf F.lays) s2).map fun s3 => (s3, if x.op = 36 ∨ x.op = 37 then 118 :: s2 else s2) := by
  subst hF
  rfl
theorem rep_none {B k : Nat} {w : World} {R : Rep} (H : Nodes B w R) (h : w.heap.size ≤ k) : R k = none := by
  cases hr : R k with
  | none => rfl
  | some t => have := H.lt hr; omega
theorem lessN_len {c : Int} : ∀ (n : Nat) (s r : List Int), lessN c n s = some r → r.length ≤ s.length
  | 0, s, r, h => by rw [lessN_zero] at h; rw [Option.some.inj h]; exact Nat.le_refl _
  | n + 1, [], r, h => by simp [lessN] at h
  | n + 1, t :: s, r, h => by
    by_cases ht : t = c ∨ (c = 63 ∧ (t = 118 ∨ t = 112))
    · rw [lessN_cons ht] at h
      have := lessN_len n s r h
      simp; omega
    · rw [lessN_off ht] at h; cases h
theorem lessL_len : ∀ (l s r : List Int), lessL l s = some r → r.length ≤ s.length
  | [], s, r, h => by simp only [lessL] at h; rw [Option.some.inj h]; exact Nat.le_refl _
  | c :: l, s, r, h => by
    simp only [lessL, Option.bind_eq_some_iff] at h
    obtain ⟨u, h1, h2⟩ := h
    exact Nat.le_trans (lessL_len l u r h2) (lessN_len _ _ _ h1)
theorem counted_ne (x : Ins) : (counted x).1 ≠ 0 := by
  unfold counted
  split
  · simp
  · split
    · simp
    · split
      · simp
      · split <;> simp
theorem counted_small (x : Ins) (ha : 0 ≤ x.a ∧ x.a ≤ 100000) : (counted x).2 ≤ 1000000 := by
  unfold counted
  split
  · simp; omega
  · split
    · simp; omega
    · split
      · simp only; split
        · omega
        · split <;> omega
      · split
        · simp; omega
        · simp
set_option maxRecDepth 20000 in
set_option maxHeartbeats 8000000 in
theorem leaves_walk (B : Nat) (R : Rep) (g : Nat) (s : List Int) (x : Ins) (w : World) (H : Nodes B w R) (hg : R g = some s) (hs : s.length ≤ 100000) (hB : B ≤ w.heap.size) (ha : 0 ≤ x.a ∧ x.a ≤ 100000) (hb : 0 ≤ x.b ∧ x.b ≤ 3) :
    Calls Tryz.prog 75 #[.agg #[.int .i64 x.op, .int .i64 x.a, .int .i64 x.b, .string x.text, .int .i64 x.pos], .pointer (some ⟨g, 0, none⟩)] w (LeavesPost B R w (effOf x s)) := by
  obtain ⟨F, hF⟩ : ∃ F, formOf x.op = F := ⟨_, rfl⟩
  have hf := forms_as x.op F hF
  have HE := Lib.hid (eff_def x s F hF)
  have hok := forms_ok x.op
  rw [hF] at hok
  obtain ⟨ht, hl, htz, hlz⟩ := hok
  have HT := Lib.hid ht
  have HLY := Lib.hid hl
  have hcs := counted_small x ha
  have HCN := Lib.hid (counted_ne x)
  have hcw := fun w => counted_walk x w ha hb
  have HH := Lib.hid H
  have HG := Lib.hid hg
  have hR1 : Row (w.alloc (.cells (cellsI x).toArray 50)) w.heap.size 50 (cellsI x) := Row.made w 50 (cellsI x)
  have H1 := Lib.hid (H.same (w' := w.alloc (.cells (cellsI x).toArray 50)) fun k hk => row_old w _ k (by
    cases hr : R k with
    | none => exact absurd hr hk
    | some t => exact H.lt hr))
  have HR1 := Lib.hid hR1
  obtain ⟨cc, hcc⟩ : ∃ cc, cc = (counted x).1 := ⟨_, rfl⟩
  obtain ⟨cn, hcn⟩ : ∃ cn, cn = (counted x).2 := ⟨_, rfl⟩
  rw [← hcc, ← hcn] at HE hcw
  rw [← hcn] at hcs
  rw [← hcc] at HCN
  clear H hg hF ht hl hR1 hcc hcn ha hb
  go_enter Tryz.func75, Tryz.ntmps75
  go_wp2_with (first
    | (go_at_call 111; refine (hcw _).mono ?_; rintro en w2 ⟨rfl, hb2⟩
       have HR2 := Lib.hid (HR1.out.below hb2 HR1.out.lt)
       have H2 := Lib.hid (H1.out.same fun k hk => hb2.block k (by
         cases hr : R k with
         | none => exact absurd hr hk
         | some t => exact H1.out.lt hr))
       have hq0 : w2.cell? ⟨w.heap.size, 0, none⟩ = some (.int .i64 x.op) := HR2.out.cell 0)
    | (go_at_call 112; refine (less_walk B R g s cc cn _ H2.out HG.out HCN.out hcs).mono ?_; rintro en w3 ⟨⟨o1, rfl, ho1⟩, rfl⟩
       have HO1 := Lib.hid ho1)
    | (go_at_call 70; refine (hf _).mono ?_; rintro en w4 ⟨rfl, hb4⟩))
  have hRF : Row (w4.alloc (.cells #[.string F.word, .int .i64 F.a, .int .i64 F.text, .string F.takes, .string F.lays] 100)) w4.heap.size 100 (cellsF F) := Row.made w4 100 (cellsF F)
  have hRI : Row (w4.alloc (.cells #[.string F.word, .int .i64 F.a, .int .i64 F.text, .string F.takes, .string F.lays] 100)) w.heap.size 50 (cellsI x) := (HR2.out.below hb4 HR2.out.lt).alloc _
  have hNW : Nodes B (w4.alloc (.cells #[.string F.word, .int .i64 F.a, .int .i64 F.text, .string F.takes, .string F.lays] 100)) R := H2.out.same fun k hk => (row_old w4 _ k (by
    cases hr : R k with
    | none => exact absurd hr hk
    | some t => exact Nat.lt_of_lt_of_le (H2.out.lt hr) hb4.size)).trans (hb4.block k (by
    cases hr : R k with
    | none => exact absurd hr hk
    | some t => exact H2.out.lt hr))
  have hGW : Grew R w R (w4.alloc (.cells #[.string F.word, .int .i64 F.a, .int .i64 F.text, .string F.takes, .string F.lays] 100)) := Grew.ofOnly (S := []) ((((Only.ofBelow (below1 w _)).trans (Only.ofBelow (S := []) hb2) (by simp)).trans (Only.ofBelow (S := []) hb4) (by simp)).alloc _) rfl (fun k hk => rep_none HH.out hk)
  have hNF : R w4.heap.size = none := rep_none HH.out (by have := (below1 w (.cells (cellsI x).toArray 50)).size; have := hb2.size; have := hb4.size; simp at *; omega)
  have HRF := Lib.hid hRF
  have HRI := Lib.hid hRI
  have HNW := Lib.hid hNW
  have HGW := Lib.hid hGW
  have HNF := Lib.hid hNF
  have HNI := Lib.hid (rep_none HH.out (Nat.le_refl _))
  clear hRF hRI hNW hGW hNF hb4 hb2 ho1 HR2 H2 HR1 H1 hf hcw hq0
  generalize hW : w4.alloc _ = W at HRF HRI HNW HGW ⊢
  generalize w4.heap.size = f0 at HRF HNF ⊢
  generalize hb0 : w.heap.size = b0 at HRI HNI hB ⊢
  clear hW
  have q1 : W.cell? ⟨f0, 1, none⟩ = some (.int .i64 F.a) := HRF.out.cell 1
  have q3 : W.cell? ⟨f0, 3, none⟩ = some (.string F.takes) := HRF.out.cell 3
  have q4 : W.cell? ⟨f0, 4, none⟩ = some (.string F.lays) := HRF.out.cell 4
  have HTOT : Hid ((lessN cc cn.toNat s).bind (lessL ((bytesOf F.takes).take F.takes.size).reverse) = (lessN cc cn.toNat s).bind (lessL (bytesOf F.takes).reverse)) := Lib.hid (by rw [List.take_of_length_le (by rw [bytes_length]; exact Nat.le_refl _)])
  have hB0 := Lib.hid hb0
  have HBW0 : Hid (B ≤ W.heap.size) := Lib.hid (Nat.le_trans (by omega) HGW.out.size)
  clear hb0
  go_loop [1, 9] (fun p iv => ∃ (cur : Option Addr) (co : Option (List Int)) (k : Nat) (j : Int), p = .pointer cur ∧ iv = .int .i64 j ∧ -1 ≤ j ∧ j < F.takes.size ∧ Hid (j = (k : Int) - 1) ∧ Hid (OptPt R cur co) ∧ Hid (co.bind (lessL ((bytesOf F.takes).take k).reverse) = (lessN cc cn.toNat s).bind (lessL (bytesOf F.takes).reverse))) (fun _ iv => (intOf iv + 1).toNat)
  case atStart => exact ⟨o1, _, F.takes.size, (F.takes.size : Int) - 1, rfl, rfl, by omega, by omega, rfl, HO1, HTOT⟩
  case round =>
    clear HO1 HTOT
    obtain ⟨cur, co, k, j, rfl, rfl, hj1, hj2, HJ, HC, HT2⟩ := hrel
    cases co with
    | none =>
      obtain rfl : cur = none := HC.out
      have HEN : Hid (effOf x s = none) := Lib.hid (by
        rw [HE.out]
        have := HT2.out
        simp only [Option.bind_none] at this
        rw [← Option.bind_assoc, ← this]
        rfl)
      by_cases h0 : 0 ≤ j
      · go_wp2_with fail
        go_ret2
        exact leaves_mk none none R HNW.out HGW.out (by rw [HEN.out]; rfl)
      · have h1 : ¬ 0 ≤ j := h0
        go_wp2_with fail
        go_ret2
        exact leaves_mk none none R HNW.out HGW.out (by rw [HEN.out]; rfl)
    | some s1 =>
      obtain ⟨g1, rfl, hg1⟩ := HC.out
      have HG1 := Lib.hid hg1
      clear hg1
      by_cases h0 : 0 ≤ j
      · obtain ⟨m, rfl⟩ : ∃ m : Nat, j = (m : Int) := ⟨j.toNat, by omega⟩
        have hm : m < F.takes.size := by omega
        have hkm : k = m + 1 := by have := HJ.out; omega
        have hc0 : ((F.takes[m].toNat : Nat) : Int) ≠ 0 := by
          have := List.all_eq_true.1 HT.out _ (List.mem_of_getElem? (bytes_at hm))
          simpa using this
        have HC0 := Lib.hid hc0
        have HX : Hid ((lessN ((F.takes[m].toNat : Nat) : Int) 1 s1).bind (lessL ((bytesOf F.takes).take m).reverse) = (lessN cc cn.toNat s).bind (lessL (bytesOf F.takes).reverse)) := Lib.hid (by
          rw [← HT2.out, hkm, take_rev (bytes_at hm)]
          rfl)
        clear HT2 HJ hkm hc0 HC
        go_wp2_with (first
          | (go_at_call 112; refine (less_walk B R g1 s1 _ 1 _ HNW.out HG1.out HC0.out (by omega)).mono ?_; rintro en w6 ⟨⟨o6, rfl, ho6⟩, rfl⟩))
        go_round
        case rel => exact ⟨o6, _, m, (m : Int) - 1, rfl, rfl, by omega, by omega, rfl, ho6, HX⟩
        case measure => first | (simp [intOf]; done) | (simp [intOf]; omega)
      · have h1 : ¬ 0 ≤ j := h0
        have hk0 : k = 0 := by have := HJ.out; omega
        have HS : Hid ((lessN cc cn.toNat s).bind (lessL (bytesOf F.takes).reverse) = some s1) := Lib.hid (by rw [← HT2.out, hk0]; rfl)
        have HE2 : Hid (effOf x s = (layL (bytesOf F.lays) s1).map fun s3 => (s3, if x.op = 36 ∨ x.op = 37 then 118 :: s1 else s1)) := Lib.hid (by
          rw [HE.out, ← Option.bind_assoc, HS.out]
          rfl)
        have p0 : W.cell? ⟨b0, 0, none⟩ = some (.int .i64 x.op) := HRI.out.cell 0
        have HSL : Hid (s1.length ≤ 100000) := Lib.hid (by
          obtain ⟨u, h1, h2⟩ := Option.bind_eq_some_iff.1 HS.out
          have := lessL_len _ _ _ h2
          have := lessN_len _ _ _ h1
          omega)
        clear HT2 HJ hk0 HC HS
        have HBW := HBW0
        by_cases h36 : x.op = 36
        · have HQ := Lib.hid h36
          rw [h36] at p0
          clear h36
          go_wp2_with (first
            | (go_at_call 113; refine (with_walk B R g1 s1 0 (by omega) _ HNW.out HG1.out (by have := HSL.out; omega) HBW.out).mono ?_; rintro en w7 ⟨g7, R7, rfl, hg7, hn7, hgr7⟩
               have HW7 := Lib.hid (show Grew R w R7 w7 from HGW.out.trans hgr7)
               have HBW7 : Hid (B ≤ w7.heap.size) := Lib.hid (Nat.le_trans HBW.out hgr7.size)
               have HRF7 := Lib.hid (hgr7.row HRF.out HNF.out)
               have HNF7 := Lib.hid (hgr7.new _ HRF.out.lt HNF.out)
               have HG7 := Lib.hid hg7
               have HN7 := Lib.hid hn7
               have HG17 := Lib.hid (hgr7.keep _ _ HG1.out)
               have q47 : w7.cell? ⟨f0, 4, none⟩ = some (.string F.lays) := HRF7.out.cell 4
               clear hg7 hn7 hgr7))
          go_loopw [1, 11, 58] (fun pv z cv wr => ∃ (g' : Nat) (s' : List Int) (k : Nat) (R' : Rep), pv = .pointer (some ⟨g', 0, none⟩) ∧ cv = .int .i64 k ∧ k ≤ F.lays.size ∧ Hid (R' g' = some s') ∧ Hid (s'.length ≤ 200000 + k) ∧ Hid (Nodes B wr R') ∧ Hid (Grew R7 w7 R' wr) ∧ Hid (layL ((bytesOf F.lays).drop k) s' = layL (bytesOf F.lays) s1)) (fun _ _ cv _ => F.lays.size - (intOf cv).toNat)
          case atStart => exact ⟨g1, s1, 0, R7, rfl, rfl, Nat.zero_le _, HG17, Lib.hid (by have := HSL.out; omega), HN7, Grew.refl _ _, rfl⟩
          case round =>
            rename World => w8
            obtain ⟨g2, s2, k, R2, rfl, rfl, hk, HG2, HL2, HN2, HGR, HLY2⟩ := hrel
            have z4 : w8.cell? ⟨f0, 4, none⟩ = some (.string F.lays) := (HGR.out.row HRF7.out HNF7.out).cell 4
            by_cases hlt : k < F.lays.size
            · have hi8 : (0 : Int) ≤ (k : Int) ∧ (k : Int) < (F.lays.size : Int) := by omega
              have hkd := List.all_eq_true.1 HLY.out _ (List.mem_of_getElem? (bytes_at hlt))
              obtain ⟨i, hi3, hik⟩ := kind_of hkd
              have HIK := Lib.hid hik
              have HD : Hid (layL (kindOf i :: (bytesOf F.lays).drop (k + 1)) s2 = layL (bytesOf F.lays) s1) := Lib.hid (by rw [← HIK.out, ← drop_at (bytes_at hlt)]; exact HLY2.out)
              clear hkd hik HLY2
              have hBB : Hid (B ≤ w8.heap.size) := Lib.hid (Nat.le_trans HBW7.out HGR.out.size)
              generalize hM : (30000 : Int) = M
              have HM := Lib.hid hM
              by_cases h30 : s2.length + 1 > 30000
              · have HEN : Hid (effOf x s = none) := Lib.hid (by
                  rw [HE2.out, ← HD.out]
                  simp only [layL, if_pos h30]
                  rfl)
                have hb30 : M < (s2.length : Int) + 1 := by omega
                clear hM
                go_wp2_with (first
                  | (go_at_call 113; rw [HIK.out]; refine (with_walk B R2 g2 s2 i hi3 _ HN2.out HG2.out (by have := HL2.out; omega) hBB.out).mono ?_; rintro en w9 ⟨g9, R9, rfl, hg9, hn9, hgr9⟩
                     have y2 : w9.cell? ⟨g9, 2, none⟩ = some (.int .i64 ((s2.length : Int) + 1)) := by
                       obtain ⟨_, _, _, _, hnn⟩ := hn9.node g9 _ hg9
                       have := hnn.row.cell 2
                       simpa [nodeCells] using this))
                go_ret2
                exact leaves_mk none none R9 hn9 ((HW7.out.trans HGR.out).trans hgr9) (by rw [HEN.out]; rfl)
              · have hb30 : ¬ M < (s2.length : Int) + 1 := by omega
                clear hM
                have HX : Hid (layL ((bytesOf F.lays).drop (k + 1)) (kindOf i :: s2) = layL (bytesOf F.lays) s1) := Lib.hid (by
                  rw [← HD.out]
                  simp only [layL, if_neg h30])
                have h30' := Lib.hid (Nat.le_of_not_gt h30)
                clear h30
                go_wp2_with (first
                  | (go_at_call 113; rw [HIK.out]; refine (with_walk B R2 g2 s2 i hi3 _ HN2.out HG2.out (by have := HL2.out; omega) hBB.out).mono ?_; rintro en w9 ⟨g9, R9, rfl, hg9, hn9, hgr9⟩
                     have y2 : w9.cell? ⟨g9, 2, none⟩ = some (.int .i64 ((s2.length : Int) + 1)) := by
                       obtain ⟨_, _, _, _, hnn⟩ := hn9.node g9 _ hg9
                       have := hnn.row.cell 2
                       simpa [nodeCells] using this))
                go_roundw
                case rel => exact ⟨g9, kindOf i :: s2, k + 1, R9, rfl, by go_num, by omega, hg9, Lib.hid (by have := HL2.out; simp; omega), hn9, HGR.out.trans hgr9, HX⟩
                case measure => simp [intOf]; omega
            · obtain rfl : k = F.lays.size := by omega
              have HEN : Hid (effOf x s = some (s2, 118 :: s1)) := Lib.hid (by
                have := HLY2.out
                rw [List.drop_of_length_le (by rw [bytes_length]; exact Nat.le_refl _)] at this
                rw [HE2.out, ← this]
                simp [layL, HQ.out])
              clear hlt hk
              go_wp2_with fail
              go_ret2
              exact leaves_mk (some ⟨g2, 0, none⟩) (some ⟨g7, 0, none⟩) R2 HN2.out (HW7.out.trans HGR.out) (by rw [HEN.out]; exact ⟨⟨g2, rfl, HG2.out⟩, ⟨g7, rfl, HGR.out.keep _ _ HG7.out⟩⟩)
        by_cases h37 : x.op = 37
        · have HQ := Lib.hid h37
          rw [h37] at p0
          clear h37
          go_wp2_with (first
            | (go_at_call 113; refine (with_walk B R g1 s1 0 (by omega) _ HNW.out HG1.out (by have := HSL.out; omega) HBW.out).mono ?_; rintro en w7 ⟨g7, R7, rfl, hg7, hn7, hgr7⟩
               have HW7 := Lib.hid (show Grew R w R7 w7 from HGW.out.trans hgr7)
               have HBW7 : Hid (B ≤ w7.heap.size) := Lib.hid (Nat.le_trans HBW.out hgr7.size)
               have HRF7 := Lib.hid (hgr7.row HRF.out HNF.out)
               have HNF7 := Lib.hid (hgr7.new _ HRF.out.lt HNF.out)
               have HG7 := Lib.hid hg7
               have HN7 := Lib.hid hn7
               have HG17 := Lib.hid (hgr7.keep _ _ HG1.out)
               have q47 : w7.cell? ⟨f0, 4, none⟩ = some (.string F.lays) := HRF7.out.cell 4
               clear hg7 hn7 hgr7))
          go_loopw [1, 11, 58] (fun pv z cv wr => ∃ (g' : Nat) (s' : List Int) (k : Nat) (R' : Rep), pv = .pointer (some ⟨g', 0, none⟩) ∧ cv = .int .i64 k ∧ k ≤ F.lays.size ∧ Hid (R' g' = some s') ∧ Hid (s'.length ≤ 200000 + k) ∧ Hid (Nodes B wr R') ∧ Hid (Grew R7 w7 R' wr) ∧ Hid (layL ((bytesOf F.lays).drop k) s' = layL (bytesOf F.lays) s1)) (fun _ _ cv _ => F.lays.size - (intOf cv).toNat)
          case atStart => exact ⟨g1, s1, 0, R7, rfl, rfl, Nat.zero_le _, HG17, Lib.hid (by have := HSL.out; omega), HN7, Grew.refl _ _, rfl⟩
          case round =>
            rename World => w8
            obtain ⟨g2, s2, k, R2, rfl, rfl, hk, HG2, HL2, HN2, HGR, HLY2⟩ := hrel
            have z4 : w8.cell? ⟨f0, 4, none⟩ = some (.string F.lays) := (HGR.out.row HRF7.out HNF7.out).cell 4
            by_cases hlt : k < F.lays.size
            · have hi8 : (0 : Int) ≤ (k : Int) ∧ (k : Int) < (F.lays.size : Int) := by omega
              have hkd := List.all_eq_true.1 HLY.out _ (List.mem_of_getElem? (bytes_at hlt))
              obtain ⟨i, hi3, hik⟩ := kind_of hkd
              have HIK := Lib.hid hik
              have HD : Hid (layL (kindOf i :: (bytesOf F.lays).drop (k + 1)) s2 = layL (bytesOf F.lays) s1) := Lib.hid (by rw [← HIK.out, ← drop_at (bytes_at hlt)]; exact HLY2.out)
              clear hkd hik HLY2
              have hBB : Hid (B ≤ w8.heap.size) := Lib.hid (Nat.le_trans HBW7.out HGR.out.size)
              generalize hM : (30000 : Int) = M
              have HM := Lib.hid hM
              by_cases h30 : s2.length + 1 > 30000
              · have HEN : Hid (effOf x s = none) := Lib.hid (by
                  rw [HE2.out, ← HD.out]
                  simp only [layL, if_pos h30]
                  rfl)
                have hb30 : M < (s2.length : Int) + 1 := by omega
                clear hM
                go_wp2_with (first
                  | (go_at_call 113; rw [HIK.out]; refine (with_walk B R2 g2 s2 i hi3 _ HN2.out HG2.out (by have := HL2.out; omega) hBB.out).mono ?_; rintro en w9 ⟨g9, R9, rfl, hg9, hn9, hgr9⟩
                     have y2 : w9.cell? ⟨g9, 2, none⟩ = some (.int .i64 ((s2.length : Int) + 1)) := by
                       obtain ⟨_, _, _, _, hnn⟩ := hn9.node g9 _ hg9
                       have := hnn.row.cell 2
                       simpa [nodeCells] using this))
                go_ret2
                exact leaves_mk none none R9 hn9 ((HW7.out.trans HGR.out).trans hgr9) (by rw [HEN.out]; rfl)
              · have hb30 : ¬ M < (s2.length : Int) + 1 := by omega
                clear hM
                have HX : Hid (layL ((bytesOf F.lays).drop (k + 1)) (kindOf i :: s2) = layL (bytesOf F.lays) s1) := Lib.hid (by
                  rw [← HD.out]
                  simp only [layL, if_neg h30])
                have h30' := Lib.hid (Nat.le_of_not_gt h30)
                clear h30
                go_wp2_with (first
                  | (go_at_call 113; rw [HIK.out]; refine (with_walk B R2 g2 s2 i hi3 _ HN2.out HG2.out (by have := HL2.out; omega) hBB.out).mono ?_; rintro en w9 ⟨g9, R9, rfl, hg9, hn9, hgr9⟩
                     have y2 : w9.cell? ⟨g9, 2, none⟩ = some (.int .i64 ((s2.length : Int) + 1)) := by
                       obtain ⟨_, _, _, _, hnn⟩ := hn9.node g9 _ hg9
                       have := hnn.row.cell 2
                       simpa [nodeCells] using this))
                go_roundw
                case rel => exact ⟨g9, kindOf i :: s2, k + 1, R9, rfl, by go_num, by omega, hg9, Lib.hid (by have := HL2.out; simp; omega), hn9, HGR.out.trans hgr9, HX⟩
                case measure => simp [intOf]; omega
            · obtain rfl : k = F.lays.size := by omega
              have HEN : Hid (effOf x s = some (s2, 118 :: s1)) := Lib.hid (by
                have := HLY2.out
                rw [List.drop_of_length_le (by rw [bytes_length]; exact Nat.le_refl _)] at this
                rw [HE2.out, ← this]
                simp [layL, HQ.out])
              clear hlt hk
              go_wp2_with fail
              go_ret2
              exact leaves_mk (some ⟨g2, 0, none⟩) (some ⟨g7, 0, none⟩) R2 HN2.out (HW7.out.trans HGR.out) (by rw [HEN.out]; exact ⟨⟨g2, rfl, HG2.out⟩, ⟨g7, rfl, HGR.out.keep _ _ HG7.out⟩⟩)
        have b36 : (x.op == (36 : Int)) = false := beq_eq_false_iff_ne.2 h36
        have b37 : (x.op == (37 : Int)) = false := beq_eq_false_iff_ne.2 h37
        have HQ : Hid (¬ (x.op = 36 ∨ x.op = 37)) := Lib.hid (fun h => h.elim h36 h37)
        clear h36 h37
        go_wp2_with fail
        go_loopw [1, 11, 58] (fun pv z cv wr => ∃ (g' : Nat) (s' : List Int) (k : Nat) (R' : Rep), pv = .pointer (some ⟨g', 0, none⟩) ∧ cv = .int .i64 k ∧ k ≤ F.lays.size ∧ Hid (R' g' = some s') ∧ Hid (s'.length ≤ 200000 + k) ∧ Hid (Nodes B wr R') ∧ Hid (Grew R W R' wr) ∧ Hid (layL ((bytesOf F.lays).drop k) s' = layL (bytesOf F.lays) s1)) (fun _ _ cv _ => F.lays.size - (intOf cv).toNat)
        case atStart => exact ⟨g1, s1, 0, R, rfl, rfl, Nat.zero_le _, HG1, Lib.hid (by have := HSL.out; omega), HNW, Grew.refl _ _, rfl⟩
        case round =>
          rename World => w8
          obtain ⟨g2, s2, k, R2, rfl, rfl, hk, HG2, HL2, HN2, HGR, HLY2⟩ := hrel
          have z4 : w8.cell? ⟨f0, 4, none⟩ = some (.string F.lays) := (HGR.out.row HRF.out HNF.out).cell 4
          by_cases hlt : k < F.lays.size
          · have hi8 : (0 : Int) ≤ (k : Int) ∧ (k : Int) < (F.lays.size : Int) := by omega
            have hkd := List.all_eq_true.1 HLY.out _ (List.mem_of_getElem? (bytes_at hlt))
            obtain ⟨i, hi3, hik⟩ := kind_of hkd
            have HIK := Lib.hid hik
            have HD : Hid (layL (kindOf i :: (bytesOf F.lays).drop (k + 1)) s2 = layL (bytesOf F.lays) s1) := Lib.hid (by rw [← HIK.out, ← drop_at (bytes_at hlt)]; exact HLY2.out)
            clear hkd hik HLY2
            have hBB : Hid (B ≤ w8.heap.size) := Lib.hid (Nat.le_trans HBW.out HGR.out.size)
            generalize hM : (30000 : Int) = M
            have HM := Lib.hid hM
            by_cases h30 : s2.length + 1 > 30000
            · have HEN : Hid (effOf x s = none) := Lib.hid (by
                rw [HE2.out, ← HD.out]
                simp only [layL, if_pos h30]
                rfl)
              have hb30 : M < (s2.length : Int) + 1 := by omega
              clear hM
              go_wp2_with (first
                | (go_at_call 113; rw [HIK.out]; refine (with_walk B R2 g2 s2 i hi3 _ HN2.out HG2.out (by have := HL2.out; omega) hBB.out).mono ?_; rintro en w9 ⟨g9, R9, rfl, hg9, hn9, hgr9⟩
                   have y2 : w9.cell? ⟨g9, 2, none⟩ = some (.int .i64 ((s2.length : Int) + 1)) := by
                     obtain ⟨_, _, _, _, hnn⟩ := hn9.node g9 _ hg9
                     have := hnn.row.cell 2
                     simpa [nodeCells] using this))
              go_ret2
              exact leaves_mk none none R9 hn9 ((HGW.out.trans HGR.out).trans hgr9) (by rw [HEN.out]; rfl)
            · have hb30 : ¬ M < (s2.length : Int) + 1 := by omega
              clear hM
              have HX : Hid (layL ((bytesOf F.lays).drop (k + 1)) (kindOf i :: s2) = layL (bytesOf F.lays) s1) := Lib.hid (by
                rw [← HD.out]
                simp only [layL, if_neg h30])
              have h30' := Lib.hid (Nat.le_of_not_gt h30)
              clear h30
              go_wp2_with (first
                | (go_at_call 113; rw [HIK.out]; refine (with_walk B R2 g2 s2 i hi3 _ HN2.out HG2.out (by have := HL2.out; omega) hBB.out).mono ?_; rintro en w9 ⟨g9, R9, rfl, hg9, hn9, hgr9⟩
                   have y2 : w9.cell? ⟨g9, 2, none⟩ = some (.int .i64 ((s2.length : Int) + 1)) := by
                     obtain ⟨_, _, _, _, hnn⟩ := hn9.node g9 _ hg9
                     have := hnn.row.cell 2
                     simpa [nodeCells] using this))
              go_roundw
              case rel => exact ⟨g9, kindOf i :: s2, k + 1, R9, rfl, by go_num, by omega, hg9, Lib.hid (by have := HL2.out; simp; omega), hn9, HGR.out.trans hgr9, HX⟩
              case measure => simp [intOf]; omega
          · obtain rfl : k = F.lays.size := by omega
            have HEN : Hid (effOf x s = some (s2, s1)) := Lib.hid (by
              have := HLY2.out
              rw [List.drop_of_length_le (by rw [bytes_length]; exact Nat.le_refl _)] at this
              rw [HE2.out, ← this]
              simp [layL, if_neg HQ.out])
            clear hlt hk
            go_wp2_with fail
            go_ret2
            exact leaves_mk (some ⟨g2, 0, none⟩) (some ⟨g1, 0, none⟩) R2 HN2.out (HGW.out.trans HGR.out) (by rw [HEN.out]; exact ⟨⟨g2, rfl, HG2.out⟩, ⟨g1, rfl, HGR.out.keep _ _ HG1.out⟩⟩)
end Go.Proofs.YtmecmlpoallpcaaGreatDoor

/- code.hand: a stack is handed on. -/
namespace Go.Proofs.YtmecmlpoallpcaaGreatDoor
set_option linter.unusedVariables false
open Go.RowKit Go.Proofs.PeepPlain

theorem info106 : ∃ j, Tryz.prog.info? 106 = some j ∧ j.size = 6 := by
  have h : (Tryz.prog.info? 106).map (·.size) = some 6 := by kernel_rfl
  cases hi : Tryz.prog.info? 106 with
  | none => simp [hi] at h
  | some i => exact ⟨i, rfl, by simpa [hi] using h⟩
theorem ptr_same (a : Addr) (w : World) : (binOp BinOp.eql 103 (.pointer (some a)) (.pointer (some a))).run Tryz.prog w = .ok (.bool true) w := by
  obtain ⟨j, hj, _⟩ := info106
  exact run_eql_ptr_same w a Tryz.underlying103 hj
theorem ptr_differs {a b : Nat} {w : World} {ca cb : List Value} {ta tb : TypeId} (h : a ≠ b) (ha : Row w a ta ca) (hb : Row w b tb cb) : (binOp BinOp.eql 103 (.pointer (some ⟨a, 0, none⟩)) (.pointer (some ⟨b, 0, none⟩))).run Tryz.prog w = .ok (.bool false) w := by
  obtain ⟨j, hj, hs⟩ := info106
  exact run_eql_ptr_other w Tryz.underlying103 hj (by omega) (by simpa using h) ha hb
def ptrC (l : List (Option Addr)) : List Value := l.map Value.pointer
theorem ptrC_length (l : List (Option Addr)) : (ptrC l).length = l.length := by simp [ptrC]
theorem ptrC_set (l : List (Option Addr)) (k : Nat) (a : Option Addr) : ptrC (l.set k a) = (ptrC l).set k (.pointer a) := by simp [ptrC, List.map_set]
theorem ptr_at {w : World} {A k : Nat} {l : List (Option Addr)} {o : Option Addr} (h : Row w A 103 (ptrC l)) (hk : l[k]? = some o) : w.cell? ⟨A, k, none⟩ = some (.pointer o) := by
  rw [h.cell]
  unfold ptrC
  rw [List.getElem?_map, hk]
  rfl
set_option maxRecDepth 20000 in
set_option maxHeartbeats 4000000 in
theorem hand_new (Bo A V : Nat) (l : List (Option Addr)) (n c : Nat) (v : Value) (todo : List Int) (k : Nat) (a : Addr) (w : World) (hr : Row w A 103 (ptrC l)) (hn : l.length = n) (hk : l[k]? = some none) (hnl : n ≤ 1000000) (H : Held Bo w V 44 v todo) (hAV : A ≠ V) (hAv : A ∉ blk v) (hB : Bo ≤ w.heap.size) (ht : todo.length ≤ 900000) :
    Calls Tryz.prog 76 #[.slice (some ⟨A, 0, none⟩) n c, .pointer (some ⟨V, 0, none⟩), .int .i64 k, .pointer (some a)] w fun e w' => e = .returned (.bool true) ∧ ∃ v', Row w' A 103 (ptrC (l.set k (some a))) ∧ Held Bo w' V 44 v' (pushH todo k) ∧ Only (A :: V :: blk v) w w' ∧ (∀ g, v'.ownBlock = some g → g ∈ blk v ∨ w.heap.size ≤ g) := by
  have hkn := (List.getElem?_eq_some_iff.1 hk).1
  have hi : (0 : Int) ≤ (k : Int) ∧ (k : Int) < (n : Int) := by omega
  have c0 := ptr_at hr hk
  have HNL := Lib.hid hnl
  clear hnl
  have cf := hr.free k
  have hr2 : Row (w.setCell ⟨A, k, none⟩ (.pointer (some a))) A 103 (ptrC (l.set k (some a))) := by rw [ptrC_set]; exact hr.set _ _
  have hO : Only (A :: V :: blk v) w (w.setCell ⟨A, k, none⟩ (.pointer (some a))) := (Only.refl _ _).setCell (p := ⟨A, k, none⟩) (.inl (by simp)) _
  have hH2 : Held Bo (w.setCell ⟨A, k, none⟩ (.pointer (some a))) V 44 v todo := ⟨H.row.setFar (Ne.symm hAV) _, own_same H.own fun g hg => Below.heap_setCell _ _ _ _ (by rintro rfl; exact hAv (blk_iff.2 hg)), H.ne⟩
  have hB2 : Bo ≤ (w.setCell ⟨A, k, none⟩ (.pointer (some a))).heap.size := by simpa [World.setCell] using hB
  have hsz : w.heap.size ≤ (w.setCell ⟨A, k, none⟩ (.pointer (some a))).heap.size := by simp [World.setCell]
  have HR := Lib.hid hr2
  have HTL := Lib.hid ht
  clear ht
  have HO := Lib.hid hO
  have HH := Lib.hid hH2
  have HB := Lib.hid hB2
  have HS := Lib.hid hsz
  have HK := Lib.hid hkn
  have HAV := Lib.hid hAV
  have HAv := Lib.hid hAv
  clear hr hk hn H hr2 hO hH2 hB2 hsz hkn hAV hAv
  have hps := ptr_same a
  go_enter Tryz.func76, Tryz.ntmps76
  go_wp2_with (first
    | (go_at_call 114; refine (push_walk Bo V v todo k _ HH.out HB.out HTL.out).mono ?_; rintro en w3 ⟨rfl, v3, hh3, hw3⟩
       have hr3 := hw3.only.row HR.out (by
         intro hm
         rcases List.mem_cons.1 hm with e | e
         · exact HAV.out e
         · exact HAv.out e)
       have c3 := ptr_at hr3 (show (l.set k (some a))[k]? = some (some a) by rw [List.getElem?_set]; simp [HK.out])
       have HR3 := Lib.hid hr3
       have H3 := Lib.hid hh3
       have W3 := Lib.hid hw3
       clear hr3 hh3 hw3))
  go_ret
  refine ⟨rfl, v3, HR3.out, H3.out, HO.out.trans W3.out.only (fun x hx => .inl ?_), fun g hg => ?_⟩
  · exact List.mem_cons_of_mem _ hx
  · rcases W3.out.new g hg with h | h
    · exact .inl h
    · exact .inr (Nat.le_trans HS.out h)
set_option maxRecDepth 20000 in
set_option maxHeartbeats 4000000 in
theorem hand_same (A V : Nat) (l : List (Option Addr)) (n c : Nat) (k : Nat) (a : Addr) (w : World) (hr : Row w A 103 (ptrC l)) (hn : l.length = n) (hk : l[k]? = some (some a)) (hnl : n ≤ 1000000) :
    Calls Tryz.prog 76 #[.slice (some ⟨A, 0, none⟩) n c, .pointer (some ⟨V, 0, none⟩), .int .i64 k, .pointer (some a)] w fun e w' => e = .returned (.bool true) ∧ w' = w := by
  have hkn := (List.getElem?_eq_some_iff.1 hk).1
  have hi : (0 : Int) ≤ (k : Int) ∧ (k : Int) < (n : Int) := by omega
  have c0 := ptr_at hr hk
  have HNL := Lib.hid hnl
  clear hnl
  clear hr hk hn hkn
  have hps := ptr_same a
  go_enter Tryz.func76, Tryz.ntmps76
  go_wp2_with fail
  go_ret
  exact ⟨rfl, rfl⟩
set_option maxRecDepth 20000 in
set_option maxHeartbeats 4000000 in
theorem hand_differs (A V : Nat) (l : List (Option Addr)) (n c : Nat) (k : Nat) (a b : Nat) (w : World) (hr : Row w A 103 (ptrC l)) (hn : l.length = n) (hk : l[k]? = some (some ⟨b, 0, none⟩)) (hab : b ≠ a) (hnl : n ≤ 1000000) (ca cb : List Value) (ta tb : TypeId) (ha : Row w a ta ca) (hb : Row w b tb cb) :
    Calls Tryz.prog 76 #[.slice (some ⟨A, 0, none⟩) n c, .pointer (some ⟨V, 0, none⟩), .int .i64 k, .pointer (some ⟨a, 0, none⟩)] w fun e w' => e = .returned (.bool false) ∧ w' = w := by
  have hkn := (List.getElem?_eq_some_iff.1 hk).1
  have hi : (0 : Int) ≤ (k : Int) ∧ (k : Int) < (n : Int) := by omega
  have c0 := ptr_at hr hk
  have HNL := Lib.hid hnl
  clear hnl
  have hpd := ptr_differs hab hb ha
  clear ha hb
  clear hr hk hn hkn
  go_enter Tryz.func76, Tryz.ntmps76
  go_wp2_with fail
  go_ret
  exact ⟨rfl, rfl⟩
end Go.Proofs.YtmecmlpoallpcaaGreatDoor
