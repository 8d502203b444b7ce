/- The walk of guiseref17.Calls. -/
import Derived.Test.YtcalmojhdpagoaaDoorRefKeep
import Derived.StillTailTactics
import Derived.Deep.QuietTactic
import Derived.BigQuiet
import Derived.Deep.DeepCutAuto
import Derived.Deep.CutBlock
import Derived.Deep.RegionHeld3
import Derived.Deep.AppendLies
namespace Go.Proofs.YtcalmojhdpagoaaDoor
set_option linter.unusedVariables false
open Go.RowKit

theorem runR_small (l : List Ev) (h : l.length ≤ 200000) : (runR l).1.length ≤ 200000 ∧ (runR l).2.length ≤ 200000 ∧ (∀ x ∈ (runR l).2, x < (runR l).1.length) ∧ ∀ c ∈ (runR l).1, c.d ≤ 200000 := by
  obtain ⟨hi, hr⟩ := run_same l
  have hm := (runT_atMost l).le h
  rw [hr]
  refine ⟨by simpa using hm.all, hm.op, ?_, ?_⟩
  · intro x hx
    obtain ⟨j, hj⟩ := List.mem_iff_getElem?.1 hx
    simpa using (hi.dep j x hj).1
  · intro c hc
    obtain ⟨r, hr, rfl⟩ := List.mem_map.1 hc
    exact hm.dep r hr

theorem lastK_succ (q : Nat → Bool) (op : List Nat) (n x : Nat) (hx : op[n]? = some x) : lastK q op (n + 1) = if q x then some n else lastK q op n := by
  simp [lastK, List.getD, hx]

/-- What stands behind the loop over the events. -/
def RefDone (w : World) (cs : List Cl) (a : Value) (wx : World) : Prop := wx.ownsRow w.heap.size 50 4 a cs.length (flatC cs) ∧ Below w.heap.size w wx

theorem refStep_some {cs : List Cl} {op : List Nat} {e : Ev} {k : Nat} (h3 : e.k = 3) (hk : lastK (fun i => clIs cs e.key i) op op.length = some k) : refStep (cs, op) e = (cs.modify (op.getD k 0) fun c => { c with en := true }, op.take k) := by
  simp [refStep, h3, hk]
theorem refStep_none {cs : List Cl} {op : List Nat} {e : Ev} (h3 : e.k = 3) (hk : lastK (fun i => clIs cs e.key i) op op.length = none) : refStep (cs, op) e = (cs, op) := by
  simp [refStep, h3, hk]
theorem clIs_at {cs : List Cl} {x : Nat} {c : Cl} {e : Ev} (h : cs[x]? = some c) : clIs cs e.key x = decide (c.p = e.p ∧ c.s = e.s) := by
  simp [clIs, clKey, h, Ev.key]

set_option maxHeartbeats 2000000 in
set_option maxRecDepth 20000 in
theorem refCalls_any (w : World) (A : Option Addr) (c : Nat) (l : List Ev) (hA : Lies w A (flat l)) (hc : l.length ≤ c) (h63 : c ≤ 9223372036854775807) :
    Calls Tryd.prog 15 #[.slice A l.length c] w fun en w' => en = .returned (.string ⟨(outOf (runR (l.take 200000)).1).toArray⟩) ∧ Below w.heap.size w w' := by
  obtain ⟨m, hm⟩ : ∃ m, m = (l.take 200000).length := ⟨_, rfl⟩
  have hml : m ≤ l.length ∧ m ≤ 200000 ∧ (l.length ≤ 200000 → m = l.length) ∧ (200000 ≤ l.length → m = 200000) := by rw [List.length_take] at hm; omega
  have htk : l.take 200000 = l.take m := by
    rcases Nat.le_total l.length 200000 with h | h
    · rw [List.take_of_length_le h, List.take_of_length_le (by omega)]
    · rw [hml.2.2.2 h]
  obtain ⟨i50, hi50, hz50, hs50, hy50⟩ := info_parts info50
  have HA := Lib.hid hA
  have HT := Lib.hid htk
  clear hA hm htk
  go_enter Tryd.func15, Tryd.ntmps15
  go_upto_block 0 with fail
  generalize hM : (200000 : Int) = M
  have HM := Lib.hid hM
  clear hM
  go_cut [3] (fun a wx => RefDone w (runR (l.take 200000)).1 a wx)
  case first =>
    go_wp2_with fail
    go_loopw [3, 4, 5] (fun a o v wr => ∃ i : Nat, v = .int .i64 i ∧ i ≤ m ∧ Hid (RS w.heap.size wr a o (runR (l.take i))) ∧ Hid (Below w.heap.size w wr)) (fun _ _ v _ => m - (intOf v).toNat)
    case atStart => exact ⟨0, rfl, Nat.zero_le _, ⟨World.ownsRow_nil _ _ _ _, World.ownsRow_nil _ _ _ _⟩, Below.refl _ _⟩
    case round =>
      obtain ⟨i, rfl, hi, HRS, HB⟩ := hrel
      rename World => w1
      by_cases hlt : i < m
      · have hlt1 : decide ((i : Int) < (l.length : Int)) = true := decide_eq_true (by omega)
        have hlt2 : decide ((i : Int) < M) = true := decide_eq_true (by have := HM.out; omega)
        obtain ⟨b, off, rfl, hbl, hcell⟩ := Evs.at_ HA.out (by omega)
        obtain ⟨a1, a2, a3⟩ := hcell i (by omega)
        have hT := Lib.hid (take_snoc l i (by omega))
        obtain ⟨e, he⟩ : ∃ e, e = l[i] := ⟨_, rfl⟩
        rw [← he] at a1 a2 a3 hT
        obtain ⟨R, hR⟩ : ∃ R, R = runR (l.take i) := ⟨_, rfl⟩
        have hsm := runR_small (l.take i) (by rw [List.length_take]; omega)
        have hstep : Hid (runR (l.take (i + 1)) = refStep R e) := by
          have := hT.out
          show runR _ = _
          rw [this, runR_snoc, hR]
        rw [← hR] at HRS hsm
        clear hcell he hR hT
        obtain ⟨cs, op⟩ := R
        dsimp only at hsm
        have hbe : ∀ (w' : World), Below w.heap.size w w' → ∀ o, w'.cell? ⟨b, o, none⟩ = w.cell? ⟨b, o, none⟩ := fun w' hw o => hw.cell (p := ⟨b, o, none⟩) hbl
        have A1 := Lib.hid a1
        have A2 := Lib.hid a2
        have A3 := Lib.hid a3
        have HBE := Lib.hid hbe
        clear a1 a2 a3 hbe
        have b1 := (HBE.out w1 HB.out _).trans A1.out
        have hsz := HB.out.size
        obtain ⟨h1, h2⟩ := HRS.out
        obtain ⟨Ac, cc, rfl⟩ := own_shape h1
        obtain ⟨Ao, co, rfl⟩ := own_shape h2
        dsimp only at h1 h2
        by_cases hk2 : e.k = 2
        · have hbk : (e.k == 2) = true := by simp [hk2]
          have hst : Hid (refStep (cs, op) e = (cs ++ [⟨op.length + 1, e.s, e.p, false⟩], op ++ [cs.length])) := by show refStep _ _ = _; simp [refStep, hk2]
          clear hk2
          have H1 := Lib.hid h1
          have H2 := Lib.hid h2
          clear h1 h2
          go_wp2_with (at_builtin; refine put_nat (.tmp 26) (.tmp 29) w.heap.size _ op cs.length _ rfl rfl rfl H2.out rfl hsm.2.1 hsz ?_; intro v6 w6 ho6 hk6)
          obtain ⟨A6, c6, rfl⟩ := own_shape ho6
          rw [List.length_append, List.length_singleton] at ho6 ⊢
          have hb6 := HB.out.trans hk6.below
          have b2 := (HBE.out w6 hb6 _).trans A2.out
          have b3 := (HBE.out w6 hb6 _).trans A3.out
          obtain ⟨Y, hY⟩ : ∃ Y, Y = (w6.alloc (.cells #[.int .i64 ((op.length : Int) + 1), .string e.s, .int .i64 e.p, .bool false] 50)).drew := ⟨_, rfl⟩
          have H6 : Hid (Y.ownsRow w.heap.size 3 1 (.slice A6 (op.length + 1) c6) (op.length + 1) (nats (op ++ [cs.length]))) := by rw [hY]; exact (ho6.alloc _).drew
          have hov : Y.ownsRow w.heap.size 50 4 (.slice Ac cs.length cc) cs.length (flatC cs) := by rw [hY]; exact ((hk6.own H1.out (by decide)).alloc _).drew
          have hnr : Row Y w6.heap.size 50 [.int .i64 ((op.length : Int) + 1), .string e.s, .int .i64 e.p, .bool false] := by rw [hY]; exact (Row.made w6 50 _).drew
          have hnews : ∀ (j : Nat) u, [Value.int .i64 ((op.length : Int) + 1), .string e.s, .int .i64 e.p, .bool false][j]? = some u → Y.cell? ((⟨w6.heap.size, 0, none⟩ : Addr).add j) = some u := fun j u hu => by rw [Addr.add_lit, Nat.zero_add, hnr.cell]; exact hu
          have HB6 : Hid (Below w.heap.size w Y) := by rw [hY]; exact (hb6.alloc hb6.size _).drew
          have hBY := HB6.out.size
          have HBY2 := Lib.hid hBY
          have HOV2 := Lib.hid hov
          have HYe := Lib.hid hY
          rw [hY] at hov hnews hBY
          have HOV := Lib.hid hov
          have HN := Lib.hid hnews
          have HBY := Lib.hid hBY
          clear ho6 hk6 hb6 hY hov hnews hBY hnr
          go_upto_region 9 with fail
          go_region_held3 (fun w' => w'.cell? ⟨b, off + i * 3 + 1, none⟩ = some (.int .i64 e.p) ∧ w'.cell? ⟨b, off + i * 3 + 2, none⟩ = some (.string e.s))
            (first | go_keep | exact ⟨b2, b3⟩ | exact ⟨y2, y3⟩)
            (first | (refine step_append_lies _ (by rfl) (.tmp 31) (.tmp 45) 48 (by rfl) w.heap.size 50 i50 _ 4 40 Tryd.underlying48 hi50 hz50 hs50 hy50 (by rfl) (by omega) (.slice Ac cs.length cc) cs.length (flatC cs) (by rfl) HOV.out ⟨w6.heap.size, 0, none⟩ 1 1 [.int .i64 ((op.length : Int) + 1), .string e.s, .int .i64 e.p, .bool false] (by rfl) (by rfl) HN.out (by simp [Value.oneCell']) (by omega) (by unfold maxLen; omega) (by omega) HBY.out _ rfl ?_; intro g cap W3 hown3 hgrow3 hat3 hlt3; rw [← HYe.out] at hgrow3; have hk7 : KeptX [50] w.heap.size Y W3 := (KeptX.refl _ _ _).grown HOV2.out (by simp) hgrow3 (Nat.le_refl _) HBY2.out; have y2 := (HBE.out W3 (HB6.out.trans hk7.below) _).trans A2.out; have y3 := (HBE.out W3 (HB6.out.trans hk7.below) _).trans A3.out; have HK7 := Lib.hid hk7; have HO7 := Lib.hid hown3; clear hk7 hown3 hgrow3 hat3))
          go_wp2_with fail
          go_roundw
          case rel => exact ⟨i + 1, by go_num, by omega, by
            rw [hstep.out, hst.out]
            refine ⟨?_, ?_⟩
            · dsimp only
              rw [List.length_append, flatC_append]
              simpa [flatC, Cl.cells] using HO7.out
            · dsimp only
              rw [List.length_append, List.length_singleton]
              exact HK7.out.own H6.out (by decide), HB6.out.trans HK7.out.below⟩
          case measure => simp [intOf]; omega
        · have hbk : (e.k == 2) = false := beq_eq_false_iff_ne.2 hk2
          by_cases hk3 : e.k = 3
          · have hbk3 : (e.k == 3) = true := beq_iff_eq.2 hk3
            have HS1 : Hid (∀ k, lastK (fun i => clIs cs e.key i) op op.length = some k → refStep (cs, op) e = (cs.modify (op.getD k 0) fun c => { c with en := true }, op.take k)) := fun k hk => refStep_some hk3 hk
            have HS0 : Hid (lastK (fun i => clIs cs e.key i) op op.length = none → refStep (cs, op) e = (cs, op)) := fun hk => refStep_none hk3 hk
            clear hk2 hk3
            have H1 := Lib.hid h1
            have H2 := Lib.hid h2
            clear h1 h2
            go_wp2_with fail
            go_loopw [6] (fun v wr => ∃ q n : Nat, v = .int .i64 ((q : Int) - 1) ∧ q ≤ op.length ∧ Hid (lastK (fun i => clIs cs e.key i) op op.length = lastK (fun i => clIs cs e.key i) op q) ∧ Hid (wr = w1.drewN n)) (fun v _ => (intOf v + 1).toNat)
            case atStart => exact ⟨op.length, 0, rfl, Nat.le_refl _, rfl, rfl⟩
            case round =>
              obtain ⟨q, n, rfl, hq, HL, HW⟩ := hrel
              obtain rfl := HW.out
              clear HW
              cases q with
              | zero =>
                rw [show ((0 : Nat) : Int) - 1 = -1 by omega]
                have hnone : Hid (refStep (cs, op) e = (cs, op)) := HS0.out (by rw [HL.out]; rfl)
                clear HS0 HS1 HL
                go_wp2_with fail
                go_quiet (fail)
                go_wp2_with fail
                go_roundw
                case rel => exact ⟨i + 1, by go_num, by omega, by rw [hstep.out, hnone.out]; exact HRS.out.drewN _, below_drewN HB.out _⟩
                case measure => simp [intOf]; omega
              | succ q =>
                rw [show ((q + 1 : Nat) : Int) - 1 = (q : Int) by omega]
                obtain ⟨x, hx⟩ : ∃ x, op[q]? = some x := ⟨_, List.getElem?_eq_getElem (by omega)⟩
                have hxl := hsm.2.2.1 x (List.mem_of_getElem? hx)
                obtain ⟨cx, hcx⟩ : ∃ cx, cs[x]? = some cx := ⟨_, List.getElem?_eq_getElem hxl⟩
                obtain ⟨go, rfl, ho1, ho2⟩ := own_addr H2.out (by omega)
                obtain ⟨ga, rfl, hc1, hc2⟩ := own_addr H1.out (by omega)
                have d0 := own_nat H2.out hx
                have d1 := own_cl (j := 1) H1.out hcx (by omega) rfl
                have d2 := own_cl (j := 2) H1.out hcx (by omega) rfl
                have b2 := (HBE.out w1 HB.out _).trans A2.out
                have b3 := (HBE.out w1 HB.out _).trans A3.out
                simp only [maxLen] at ho2 hc2
                have hcl := clIs_at (e := e) hcx
                have hls := lastK_succ (fun i => clIs cs e.key i) op q x hx
                have HX := Lib.hid hx
                have HCX := Lib.hid hcx
                clear hx hcx
                obtain ⟨cd, css, cp, cen⟩ := cx
                dsimp only at d1 d2 hcl
                rw [hcl] at hls
                clear hcl
                by_cases hs : css = e.s
                · by_cases hp : cp = e.p
                  · subst hs hp
                    have hk : Hid (refStep (cs, op) e = (cs.modify x (fun c => { c with en := true }), op.take q)) := by
                      have := HS1.out q (by rw [HL.out, hls]; simp)
                      show refStep (cs, op) e = _
                      rw [this, show op.getD q 0 = x by simp [List.getD, HX.out]]
                    have f2 := own_free (o := x * 4 + 3) H1.out
                    have d3 := own_cl (j := 3) H1.out HCX.out (by omega) rfl
                    dsimp only at d3
                    have HE := Lib.hid (fun n => (HRS.out.drewN n).ended hxl (k := q) (by omega))
                    clear HS1 HS0 HL hls
                    go_wp2_with fail
                    go_quiet (fail)
                    go_wp2_with fail
                    go_roundw
                    case rel => exact ⟨i + 1, by go_num, by omega, by rw [hstep.out, hk.out]; exact (HE.out _).1, (below_drewN HB.out _).trans (HE.out _).2⟩
                    case measure => simp [intOf]; omega
                  · have hpb : (cp != e.p) = true := by simpa using hp
                    subst hs
                    have HL2 : Hid (lastK (fun i => clIs cs e.key i) op op.length = lastK (fun i => clIs cs e.key i) op q) := by
                      show lastK _ _ _ = _
                      rw [HL.out, hls, if_neg (by simpa using hp)]
                    clear hp hls HL
                    go_wp2_with fail
                    go_quiet (fail)
                    go_wp2_with fail
                    go_roundw
                    case rel => exact ⟨q, n + nq, by go_num, by omega, HL2.out, by first | rfl | rw [World.drewN_drewN]⟩
                    case measure => simp [intOf]
                · have hsb : (css.toList == e.s.toList) = false := beq_eq_false_iff_ne.2 fun h => hs (bytes_ext h)
                  have HL2 : Hid (lastK (fun i => clIs cs e.key i) op op.length = lastK (fun i => clIs cs e.key i) op q) := by
                    show lastK _ _ _ = _
                    rw [HL.out, hls, if_neg (by simp [hs])]
                  clear hs hls HL
                  go_wp2_with fail
                  go_quiet (fail)
                  go_wp2_with fail
                  go_roundw
                  case rel => exact ⟨q, n + nq, by go_num, by omega, HL2.out, by first | rfl | rw [World.drewN_drewN]⟩
                  case measure => simp [intOf]
          · have hbk3 : (e.k == 3) = false := beq_eq_false_iff_ne.2 hk3
            have hst : Hid (refStep (cs, op) e = (cs, op)) := by show refStep _ _ = _; simp only [refStep]; rw [if_neg hk2, if_neg hk3]
            clear hk2 hk3 h1 h2
            go_wp2_with fail
            go_roundw
            case rel => exact ⟨i + 1, by go_num, by omega, by rw [hstep.out, hst.out]; exact HRS.out, HB.out⟩
            case measure => simp [intOf]; omega
      · obtain rfl : i = m := by omega
        have hd : Hid (runR (l.take 200000) = runR (l.take i)) := by rw [HT.out]; exact rfl
        have hdn : RefDone w (runR (l.take i)).1 _ w1 := ⟨HRS.out.1, HB.out⟩
        rw [← hd.out] at hdn
        have HD := Lib.hid hdn
        clear hdn
        by_cases hl2 : l.length ≤ 200000
        · have hil := hml.2.2.1 hl2
          clear hml hi hlt
          subst hil
          go_wp2_with fail
          go_meet
          case rel => exact HD.out
        · have hil := hml.2.2.2 (by omega)
          have hMi : M = (i : Int) := by have := HM.out; omega
          have hlt1 : i < l.length := by omega
          clear hml hi hlt hl2 HM hil
          subst hMi
          go_wp2_with fail
          go_meet
          case rel => exact HD.out
  case rest =>
    obtain ⟨h1, hb⟩ := hcut
    obtain ⟨Ac, cc, rfl⟩ := own_shape h1
    have hsm := runR_small (l.take 200000) (by rw [List.length_take]; omega)
    obtain ⟨cs, hcs⟩ : ∃ cs, cs = (runR (l.take 200000)).1 := ⟨_, rfl⟩
    rw [← hcs] at hsm h1 ⊢
    have hcl := hsm.1
    have HDEP := Lib.hid hsm.2.2.2
    have HC := Lib.hid h1
    have HCS := Lib.hid hcs
    have HB := Lib.hid hb
    clear hsm h1 hb hcs
    rename World => w1
    go_wp2_with fail
    go_loopw [7, 8] (fun b v wr => ∃ k : Nat, v = .int .i64 k ∧ k ≤ cs.length ∧ Hid (OwnB w1.heap.size wr b (outOf (cs.take k))) ∧ Hid (KeptX [5] w1.heap.size w1 wr)) (fun _ v _ => cs.length - (intOf v).toNat)
    case atStart => exact ⟨0, rfl, Nat.zero_le _, OwnB.nil _ _, KeptX.refl _ _ _⟩
    case round =>
      rename World => w2
      obtain ⟨k, rfl, hk, HO, HK⟩ := hrel
      by_cases hlt : k < cs.length
      · obtain ⟨r, hr⟩ : ∃ r, cs[k]? = some r := ⟨_, List.getElem?_eq_getElem hlt⟩
        obtain ⟨ga, rfl, _, hca⟩ := own_addr HC.out (by omega)
        have hdk := HDEP.out r (List.mem_of_getElem? hr)
        have hcellX : ∀ (w' : World), KeptX [5] w1.heap.size w1 w' → ∀ (j : Nat) u, j < 4 → r.cells[j]? = some u → w'.cell? ⟨ga, k * 4 + j, none⟩ = some u := fun w' hw j u hj hu => own_cl (hw.own HC.out (by decide)) hr hj hu
        have HCX := Lib.hid hcellX
        have hsz2 := HK.out.size
        obtain ⟨pre, hpre⟩ : ∃ pre, pre = outOf (cs.take k) := ⟨_, rfl⟩
        have hplen : pre.length ≤ 200000 * 123 := by
          have := out_length (cs.take k) (by
            intro c hc
            have := HDEP.out c (List.mem_of_mem_take hc)
            omega)
          rw [← hpre] at this
          simp only [List.length_take] at this
          omega
        rw [← hpre] at HO
        have hlast : Hid (outOf (cs.take (k + 1)) = pre ++ r.line) := by
          show outOf _ = _
          rw [List.take_succ_eq_append_getElem hlt, hpre]
          have : cs[k] = r := (List.getElem?_eq_some_iff.1 hr).2
          rw [this]
          exact out_snoc _ _
        have hitoa := decDigits_short r.d (by omega)
        have hshl : (shown r.s).length ≤ 100 := by rw [shown_length]; omega
        have c0 : w2.cell? ⟨ga, k * 4, none⟩ = some (.int .i64 r.d) := HCX.out w2 HK.out 0 _ (by omega) rfl
        have hdig := digits_any w2 r.d (by omega)
        clear hcellX hpre hr
        cases hen : r.en with
        | true =>
          have HEN : Hid (∀ (w' : World), KeptX [5] w1.heap.size w1 w' → w'.cell? ⟨ga, k * 4 + 3, none⟩ = some (.bool true)) := fun w' hw => by
            have := HCX.out w' hw 3 _ (by omega) rfl
            rwa [hen] at this
          have hline : Hid (pre ++ Lib.itoa r.d ++ [32] ++ shown r.s ++ [10] = pre ++ r.line) := by
            show pre ++ Lib.itoa r.d ++ [32] ++ shown r.s ++ [10] = _
            simp [Cl.line, hen]
          clear hen
          go_wp2_with (first
            | (go_at_call 19; refine hdig.mono ?_; rintro en w3 ⟨rfl, hb3⟩
               have hk3 : KeptX [5] w1.heap.size w1 w3 := HK.out.trans (KeptX.ofBelow [5] hb3 hsz2)
               have ho3 : OwnB w1.heap.size w3 _ pre := own_same HO.out fun g hg => hb3.block g (HO.out.lt g hg).2)
            | (at_builtin; refine put_s (.tmp 106) (.tmp 112) w1.heap.size _ pre ⟨(Lib.itoa r.d).toArray⟩ _ rfl rfl rfl ho3 rfl (by show pre.length + (Lib.itoa r.d).length ≤ _; omega) hk3.size ?_; intro v4 w4 ho4 hk4
               have hk4' := hk3.trans hk4)
            | (at_builtin; refine put_b (.tmp 114) (.tmp 115) w1.heap.size _ (pre ++ Lib.itoa r.d) [32] _ _ rfl rfl rfl ho4 rfl rfl (by simp; omega) hk4'.size ?_; intro v5 w5 ho5 hk5
               have hk5' := hk4'.trans hk5
               have hsh := shown_any w5 r.s
               have c1 : w5.cell? ⟨ga, k * 4 + 1, none⟩ = some (.string r.s) := HCX.out w5 hk5' 1 _ (by omega) rfl)
            | (go_at_call 20; refine hsh.mono ?_; rintro en w6 ⟨rfl, hb6⟩
               have hk6 : KeptX [5] w1.heap.size w1 w6 := hk5'.trans (KeptX.ofBelow [5] hb6 hk5'.size)
               have ho6 : OwnB w1.heap.size w6 _ (pre ++ Lib.itoa r.d ++ [32]) := own_same ho5 fun g hg => hb6.block g (World.ownsRow.lt ho5 g hg).2)
            | (at_builtin; refine put_s (.tmp 117) (.tmp 123) w1.heap.size _ (pre ++ Lib.itoa r.d ++ [32]) ⟨(shown r.s).toArray⟩ _ rfl rfl rfl ho6 rfl (by show (pre ++ Lib.itoa r.d ++ [32]).length + (shown r.s).length ≤ _; simp; omega) hk6.size ?_; intro v7 w7 ho7 hk7
               have hk7' := hk6.trans hk7
               have c3 : w7.cell? ⟨ga, k * 4 + 3, none⟩ = some (.bool true) := HEN.out w7 hk7')
            | (at_builtin; refine put_b (.tmp 133) (.tmp 134) w1.heap.size _ (pre ++ Lib.itoa r.d ++ [32] ++ shown r.s) [10] _ _ rfl rfl rfl ho7 rfl rfl (by simp; omega) hk7'.size ?_; intro v9 w9 ho9 hk9))
          go_roundw
          case rel => exact ⟨k + 1, by go_num, by omega, by rw [hlast.out, ← hline.out]; exact ho9, hk7'.trans hk9⟩
          case measure => simp [intOf]; omega
        | false =>
          have HEN : Hid (∀ (w' : World), KeptX [5] w1.heap.size w1 w' → w'.cell? ⟨ga, k * 4 + 3, none⟩ = some (.bool false)) := fun w' hw => by
            have := HCX.out w' hw 3 _ (by omega) rfl
            rwa [hen] at this
          have hline : Hid (pre ++ Lib.itoa r.d ++ [32] ++ shown r.s ++ [32, 33] ++ [10] = pre ++ r.line) := by
            show pre ++ Lib.itoa r.d ++ [32] ++ shown r.s ++ [32, 33] ++ [10] = _
            simp [Cl.line, hen]
          clear hen
          go_wp2_with (first
            | (go_at_call 19; refine hdig.mono ?_; rintro en w3 ⟨rfl, hb3⟩
               have hk3 : KeptX [5] w1.heap.size w1 w3 := HK.out.trans (KeptX.ofBelow [5] hb3 hsz2)
               have ho3 : OwnB w1.heap.size w3 _ pre := own_same HO.out fun g hg => hb3.block g (HO.out.lt g hg).2)
            | (at_builtin; refine put_s (.tmp 106) (.tmp 112) w1.heap.size _ pre ⟨(Lib.itoa r.d).toArray⟩ _ rfl rfl rfl ho3 rfl (by show pre.length + (Lib.itoa r.d).length ≤ _; omega) hk3.size ?_; intro v4 w4 ho4 hk4
               have hk4' := hk3.trans hk4)
            | (at_builtin; refine put_b (.tmp 114) (.tmp 115) w1.heap.size _ (pre ++ Lib.itoa r.d) [32] _ _ rfl rfl rfl ho4 rfl rfl (by simp; omega) hk4'.size ?_; intro v5 w5 ho5 hk5
               have hk5' := hk4'.trans hk5
               have hsh := shown_any w5 r.s
               have c1 : w5.cell? ⟨ga, k * 4 + 1, none⟩ = some (.string r.s) := HCX.out w5 hk5' 1 _ (by omega) rfl)
            | (go_at_call 20; refine hsh.mono ?_; rintro en w6 ⟨rfl, hb6⟩
               have hk6 : KeptX [5] w1.heap.size w1 w6 := hk5'.trans (KeptX.ofBelow [5] hb6 hk5'.size)
               have ho6 : OwnB w1.heap.size w6 _ (pre ++ Lib.itoa r.d ++ [32]) := own_same ho5 fun g hg => hb6.block g (World.ownsRow.lt ho5 g hg).2)
            | (at_builtin; refine put_s (.tmp 117) (.tmp 123) w1.heap.size _ (pre ++ Lib.itoa r.d ++ [32]) ⟨(shown r.s).toArray⟩ _ rfl rfl rfl ho6 rfl (by show (pre ++ Lib.itoa r.d ++ [32]).length + (shown r.s).length ≤ _; simp; omega) hk6.size ?_; intro v7 w7 ho7 hk7
               have hk7' := hk6.trans hk7
               have c3 : w7.cell? ⟨ga, k * 4 + 3, none⟩ = some (.bool false) := HEN.out w7 hk7')
            | (at_builtin; refine put_s (.tmp 131) _ w1.heap.size _ (pre ++ Lib.itoa r.d ++ [32] ++ shown r.s) ⟨#[32, 33]⟩ _ rfl rfl rfl ho7 rfl (by show (pre ++ Lib.itoa r.d ++ [32] ++ shown r.s).length + 2 ≤ _; simp; omega) hk7'.size ?_; intro v8 w8 ho8 hk8
               have hk8' := hk7'.trans hk8)
            | (at_builtin; refine put_b (.tmp 133) (.tmp 134) w1.heap.size _ (pre ++ Lib.itoa r.d ++ [32] ++ shown r.s ++ [32, 33]) [10] _ _ rfl rfl rfl ho8 rfl rfl (by simp; omega) hk8'.size ?_; intro v9 w9 ho9 hk9))
          go_roundw
          case rel => exact ⟨k + 1, by go_num, by omega, by rw [hlast.out, ← hline.out]; exact ho9, hk8'.trans hk9⟩
          case measure => simp [intOf]; omega
      · obtain rfl : k = cs.length := by omega
        have ho := HO.out
        rw [List.take_length] at ho
        have hconv := conv_own ho
        have hpost : Hid (Below w.heap.size w w2) := by
          show Below w.heap.size w w2
          exact HB.out.trans (HK.out.low HB.out.size).below
        clear HO ho
        go_wp2_with fail
        go_ret
        exact ⟨by rw [← HCS.out]; rfl, hpost.out⟩
end Go.Proofs.YtcalmojhdpagoaaDoor
