/- The walk of trace.Calls. -/
import Derived.Test.YtcalmojhdpagoaaDoorEnd
import Derived.Test.YtcalmojhdpagoaaDoorOut
import Derived.Test.YtcalmojhdpagoaaDoorSmall
import Derived.Laws.EntriesVeiled
namespace Go.Proofs.YtcalmojhdpagoaaDoor
set_option linter.unusedVariables false
open Go.RowKit

@[go_sem] theorem build39 (r : Option Nat) (w : World) : (Instr.build 39 #[(2, .map r)]).run Tryd.prog w = .ok (.agg #[.slice none 0 0, .slice none 0 0, .map r]) w := run_build w 39 _ _ (by kernel_rfl)
@[go_sem] theorem build42 (k : Int) (f : Fn) (fs cs : Array Value) (w : World) : (Instr.build 42 #[(0, .int .i64 k), (1, .func f fs cs)]).run Tryd.prog w = .ok (.agg #[.int .i64 k, .func f fs cs]) w := run_build w 42 _ _ (by kernel_rfl)

/-- The rows of what is done. -/
def rowsOf (gc : Nat) : List Value := [.int .i64 2, .func (.func 16) #[.pointer (some ⟨gc, 0, none⟩)] #[], .int .i64 3, .func (.func 17) #[.pointer (some ⟨gc, 0, none⟩)] #[]]

/-- The state behind the first j rows. -/
def stepJ (st : St) (e : Ev) : Nat → St
  | 0 => st
  | 1 => if e.k = 2 then st.begin e else st
  | _ => st.step e

def Ran (B B0 gc gm : Nat) (w0 : World) (st : St) (w : World) : Prop := ∃ allv opv vs, TS w B gc gm st allv opv vs ∧ Kept B0 w0 w
theorem Ran.alloc {B B0 gc gm : Nat} {w0 w : World} {st : St} (h : Ran B B0 gc gm w0 st w) (hB : B0 ≤ B) (o : Obj) : Ran B B0 gc gm w0 st (w.alloc o) := by
  obtain ⟨a, b, c, ht, hk⟩ := h
  exact ⟨a, b, c, ht.alloc o, hk.alloc (by have := ht.low.2.2.2; omega) o⟩
theorem Ran.drewN {B B0 gc gm : Nat} {w0 w : World} {st : St} (h : Ran B B0 gc gm w0 st w) (n : Nat) : Ran B B0 gc gm w0 st (w.drewN n) := by
  obtain ⟨a, b, c, ht, hk⟩ := h
  exact ⟨a, b, c, ht.drewN n, hk.drewN n⟩
theorem Ran.after {B B0 gc gm : Nat} {w0 w w' : World} {st st' : St} (h : Ran B B0 gc gm w0 st w) (hb : Became B B0 gc gm st' w w') : Ran B B0 gc gm w0 st' w' := by
  obtain ⟨_, _, _, _, hk⟩ := h
  obtain ⟨a, b, c, ht, hk'⟩ := hb
  exact ⟨a, b, c, ht, hk.trans hk'⟩
theorem Became.size {B B0 gc gm : Nat} {w w' : World} {st' : St} (hb : Became B B0 gc gm st' w w') : w.heap.size ≤ w'.heap.size := by
  obtain ⟨_, _, _, _, hk⟩ := hb
  exact hk.size
theorem Became.kept {B B0 gc gm : Nat} {w w' : World} {st' : St} (hb : Became B B0 gc gm st' w w') : Kept B0 w w' := by
  obtain ⟨_, _, _, _, hk⟩ := hb
  exact hk
theorem Ran.kept {B B0 gc gm : Nat} {w0 w : World} {st : St} (h : Ran B B0 gc gm w0 st w) : Kept B0 w0 w := by
  obtain ⟨_, _, _, _, hk⟩ := h
  exact hk
theorem Ran.low {B B0 gc gm : Nat} {w0 w : World} {st : St} (h : Ran B B0 gc gm w0 st w) : B ≤ w.heap.size := by
  obtain ⟨_, _, _, ht, _⟩ := h
  exact ht.low.2.2.2

theorem call_begin {w0 w : World} {B B0 gc gm : Nat} {st : St} (e : Ev) (h : Ran B B0 gc gm w0 st w) (hB0 : B0 ≤ gm ∧ B0 ≤ gc) (hm : st.atMost 200000) :
    Calls Tryd.prog 16 #[.pointer (some ⟨gc, 0, none⟩), .agg #[.int .i64 e.k, .int .i64 e.p, .string e.s]] w fun en w' => en = .returned (.tuple #[]) ∧ Became B B0 gc gm (st.begin e) w w' := by
  obtain ⟨_, _, _, ht, hk⟩ := h
  exact begin_any w B B0 gc gm st _ _ _ e ht hB0 hm.all hm.op hm.bg
theorem call_end {w0 w : World} {B B0 gc gm : Nat} {st : St} (e : Ev) (h : Ran B B0 gc gm w0 st w) (hi : Inv st) (hB0 : B0 ≤ gm ∧ B0 ≤ gc) (hm : st.atMost 200000) :
    Calls Tryd.prog 17 #[.pointer (some ⟨gc, 0, none⟩), .agg #[.int .i64 e.k, .int .i64 e.p, .string e.s]] w fun en w' => en = .returned (.tuple #[]) ∧ Became B B0 gc gm (st.finish e) w w' := by
  obtain ⟨_, _, _, ht, hk⟩ := h
  exact end_any w B B0 gc gm st _ _ _ e ht hi hB0 hm.all hm.op hm.bg

/-- The world when the loop over the events begins. -/
def calls0 (w : World) : World := ((w.alloc (.map #[] 0)).alloc (.cells #[.slice none 0 0, .slice none 0 0, .map (some w.heap.size)] 39)).alloc (.cells (rowsOf (w.heap.size + 1)).toArray 42)

theorem calls0_ran (w : World) : Ran (w.heap.size + 2) w.heap.size (w.heap.size + 1) w.heap.size w St.zero (calls0 w) ∧ Row (calls0 w) (w.heap.size + 2) 42 (rowsOf (w.heap.size + 1)) := by
  have s1 : (w.alloc (.map #[] 0)).heap.size = w.heap.size + 1 := by simp
  have s2 : ((w.alloc (.map #[] 0)).alloc (.cells #[.slice none 0 0, .slice none 0 0, .map (some w.heap.size)] 39)).heap.size = w.heap.size + 2 := by simp
  have r1 : Row ((w.alloc (.map #[] 0)).alloc (.cells #[.slice none 0 0, .slice none 0 0, .map (some w.heap.size)] 39)) (w.heap.size + 1) 39 [.slice none 0 0, .slice none 0 0, .map (some w.heap.size)] := by
    have := Row.made (w.alloc (.map #[] 0)) 39 [.slice none 0 0, .slice none 0 0, .map (some w.heap.size)]
    rwa [s1] at this
  have hmap : HasMap (w.alloc (.map #[] 0)) w.heap.size [] [] := ⟨rfl, heap_alloc_new w _⟩
  refine ⟨⟨_, _, [], ⟨r1.alloc _, World.ownsRow_nil _ _ _ _, World.ownsRow_nil _ _ _ _, ?_, by intro j v x h; simp at h, by intro j v h; simp at h, by intro i j v u _ h; simp at h, ?_⟩, ?_⟩, ?_⟩
  · exact (hmap.kept (Below.heap_alloc _ _ _ (by simp))).kept (Below.heap_alloc _ _ _ (by simp; omega))
  · exact ⟨by omega, by omega, by omega, by simp [calls0]⟩
  · exact ((((Kept.refl _ _).alloc (Nat.le_refl _) _).alloc (by simp) _).alloc (by simp; omega) _)
  · have := Row.made ((w.alloc (.map #[] 0)).alloc (.cells #[.slice none 0 0, .slice none 0 0, .map (some w.heap.size)] 39)) 42 (rowsOf (w.heap.size + 1))
    rwa [s2] at this

set_option maxHeartbeats 2000000 in
theorem calls_any (w : World) (A : Option Addr) (c : Nat) (l : List Ev) (hA : Lies w A (flat l)) (hc : l.length ≤ c) (h63 : c ≤ 9223372036854775807) (htab : Lib.TabIs Tryd.prog w "internal/strconv.uint64pow10" .u64 Lib.pow10Tab) :
    Calls Tryd.prog 14 #[.slice A l.length c] w fun en w' => en = .returned (.string ⟨(outOf ((runT (l.take 200000)).all.map Rec.cl)).toArray⟩) ∧ Below w.heap.size w w' := by
  have hmm := @run_makeMap Tryd.prog
  obtain ⟨m, hm⟩ : ∃ m, m = (l.take 200000).length := ⟨_, rfl⟩
  have hml : m ≤ l.length ∧ m ≤ 200000 ∧ (l.length ≤ 200000 → m = l.length) ∧ (200000 ≤ l.length → m = 200000) := by rw [List.length_take] at hm; omega
  have hmin : min (l.length : Int) 200000 = (m : Int) := by omega
  have htk : l.take 200000 = l.take m := by
    rcases Nat.le_total l.length 200000 with h | h
    · rw [List.take_of_length_le h, List.take_of_length_le (by omega)]
    · rw [hml.2.2.2 h]
  obtain ⟨h0, hr0⟩ := calls0_ran w
  have H0 := Lib.hid h0
  have HR0 := Lib.hid hr0
  have HA := Lib.hid hA
  have HM := Lib.hid hm
  have HT := Lib.hid htk
  have HTAB := Lib.hid htab
  clear h0 hr0 hA hm htk htab
  go_enter Tryd.func14, Tryd.ntmps14
  go_wp2_with fail
  go_loopw [29] (fun v wr => ∃ i : Nat, v = .int .i64 i ∧ i ≤ m ∧ Hid (Ran (w.heap.size + 2) w.heap.size (w.heap.size + 1) w.heap.size w (runT (l.take i)) wr) ∧ Hid (Row wr (w.heap.size + 2) 42 (rowsOf (w.heap.size + 1)))) (fun v _ => m - (intOf v).toNat)
  case atStart => exact ⟨0, rfl, Nat.zero_le _, H0, HR0⟩
  case round =>
    clear H0 HR0
    obtain ⟨i, rfl, hi, HR, HW⟩ := hrel
    rename World => w1
    by_cases hlt : i < m
    · obtain ⟨b, off, rfl, hbl, hcell⟩ := Evs.at_ HA.out (by omega)
      obtain ⟨a1, a2, a3⟩ := hcell i (by omega)
      have hbe : ∀ o, w1.cell? ⟨b, o, none⟩ = w.cell? ⟨b, o, none⟩ := fun o => HR.out.kept.below.cell (p := ⟨b, o, none⟩) hbl
      rw [← hbe] at a1 a2 a3
      have hT := Lib.hid (take_snoc l i (by omega))
      obtain ⟨e, he⟩ : ∃ e, e = l[i] := ⟨_, rfl⟩
      rw [← he] at a1 a2 a3 hT
      obtain ⟨st, hst⟩ : ∃ st, st = runT (l.take i) := ⟨_, rfl⟩
      have hinv : Inv st := by rw [hst]; exact (run_same _).1
      have hats : st.atMost i := by
        have := runT_atMost (l.take i)
        rw [← hst] at this
        exact this.le (by rw [List.length_take]; omega)
      have hstep : Hid (runT (l.take (i + 1)) = st.step e) := by
        have := hT.out
        show runT _ = _
        rw [this, runT_snoc, hst]
      rw [← hst] at HR
      have HINV := Lib.hid hinv
      have HATS := Lib.hid hats
      clear hcell hbe he hst hinv hats
      have hlow := HR.out.low
      have HRX : Hid (Ran (w.heap.size + 2) w.heap.size (w.heap.size + 1) w.heap.size w st (w1.alloc (.cells #[.int .i64 e.k, .int .i64 e.p, .string e.s] 33))) := HR.out.alloc (by omega) _
      have HWX : Hid (Row (w1.alloc (.cells #[.int .i64 e.k, .int .i64 e.p, .string e.s] 33)) (w.heap.size + 2) 42 (rowsOf (w.heap.size + 1))) := HW.out.alloc _
      have HEX : Hid (Row (w1.alloc (.cells #[.int .i64 e.k, .int .i64 e.p, .string e.s] 33)) w1.heap.size 33 [.int .i64 e.k, .int .i64 e.p, .string e.s]) := Row.made w1 33 _
      have HLOW := Lib.hid hlow
      clear hlow HR HW
      go_wp2_with fail
      clear a1 a2 a3
      go_loopw [35] (fun v wi => ∃ j : Nat, v = .int .i64 j ∧ j ≤ 2 ∧ Hid (Ran (w.heap.size + 2) w.heap.size (w.heap.size + 1) w.heap.size w (stepJ st e j) wi) ∧ Hid (Row wi (w.heap.size + 2) 42 (rowsOf (w.heap.size + 1))) ∧ Hid (Row wi w1.heap.size 33 [.int .i64 e.k, .int .i64 e.p, .string e.s])) (fun v _ => 2 - (intOf v).toNat)
      case atStart => exact ⟨0, rfl, by omega, HRX, HWX, HEX⟩
      case round =>
        rename World => wi
        clear HRX HWX HEX
        obtain ⟨j, rfl, hj, HR, HW, HE⟩ := hrel
        have hl1 := HR.out.low
        have hl2 := HE.out.lt
        have d0 : wi.cell? ⟨w.heap.size + 1 + 1, 0, none⟩ = _ := HW.out.cell 0
        have d1 : wi.cell? ⟨w.heap.size + 1 + 1, 1, none⟩ = _ := HW.out.cell 1
        have d2 : wi.cell? ⟨w.heap.size + 1 + 1, 2, none⟩ = _ := HW.out.cell 2
        have d3 : wi.cell? ⟨w.heap.size + 1 + 1, 3, none⟩ = _ := HW.out.cell 3
        have f0 : wi.cell? ⟨w1.heap.size, 0, none⟩ = _ := HE.out.cell 0
        have f1 : wi.cell? ⟨w1.heap.size, 1, none⟩ = _ := HE.out.cell 1
        have f2 : wi.cell? ⟨w1.heap.size, 2, none⟩ = _ := HE.out.cell 2
        simp only [rowsOf, List.getElem?_cons_zero, List.getElem?_cons_succ] at d0 d1 d2 d3 f0 f1 f2
        rcases (by omega : j = 0 ∨ j = 1 ∨ j = 2) with rfl | rfl | rfl
        · have hR0 : Ran (w.heap.size + 2) w.heap.size (w.heap.size + 1) w.heap.size w st wi := HR.out
          have hR1 := Lib.hid (hR0.alloc (by omega) (.cells #[.int .i64 2, .func (.func 16) #[.pointer (some ⟨w.heap.size + 1, 0, none⟩)] #[]] 42))
          have hW1 := Lib.hid (HW.out.alloc (.cells #[.int .i64 2, .func (.func 16) #[.pointer (some ⟨w.heap.size + 1, 0, none⟩)] #[]] 42))
          have hE1 := Lib.hid (HE.out.alloc (.cells #[.int .i64 2, .func (.func 16) #[.pointer (some ⟨w.heap.size + 1, 0, none⟩)] #[]] 42))
          clear HR HW HE hR0
          by_cases hk : e.k = 2
          · have hb : ((2 : Int) == e.k) = true := by simp [hk]
            have hst : Hid (stepJ st e 1 = st.begin e) := by show stepJ st e 1 = _; simp [stepJ, hk]
            have hcall := call_begin e hR1.out ⟨by omega, by omega⟩ (HATS.out.le (by omega))
            have hk2 := Lib.hid hk
            clear hk
            go_wp2_with (go_at_call 16; refine hcall.mono ?_; rintro en w' ⟨rfl, hbec⟩)
            go_roundw
            case rel => exact ⟨1, rfl, by omega, by rw [hst.out]; exact hR1.out.after hbec, hbec.kept.row hW1.out (by decide) (by decide) (by decide), hbec.kept.row hE1.out (by decide) (by decide) (by decide)⟩
            case measure => simp [intOf]
          · have hb : ((2 : Int) == e.k) = false := by simp; omega
            have hst : Hid (stepJ st e 1 = st) := by show stepJ st e 1 = _; simp [stepJ, hk]
            clear hk
            go_wp2
            go_roundw
            case rel => exact ⟨1, rfl, by omega, by rw [hst.out]; exact hR1.out, hW1.out, hE1.out⟩
            case measure => simp [intOf]
        · have hR1 := Lib.hid (HR.out.alloc (by omega) (.cells #[.int .i64 3, .func (.func 17) #[.pointer (some ⟨w.heap.size + 1, 0, none⟩)] #[]] 42))
          have hW1 := Lib.hid (HW.out.alloc (.cells #[.int .i64 3, .func (.func 17) #[.pointer (some ⟨w.heap.size + 1, 0, none⟩)] #[]] 42))
          have hE1 := Lib.hid (HE.out.alloc (.cells #[.int .i64 3, .func (.func 17) #[.pointer (some ⟨w.heap.size + 1, 0, none⟩)] #[]] 42))
          clear HR HW HE
          by_cases hk : e.k = 3
          · have hb : ((3 : Int) == e.k) = true := by simp [hk]
            have h1 : stepJ st e 1 = st := by simp [stepJ, hk]
            have hst : Hid (stepJ st e 2 = st.finish e) := by show stepJ st e 2 = _; simp [stepJ, St.step, hk]
            have hR2 := hR1.out
            rw [h1] at hR2
            have hcall := call_end e hR2 HINV.out ⟨by omega, by omega⟩ (HATS.out.le (by omega))
            have hk2 := Lib.hid hk
            have HR2 := Lib.hid hR2
            clear hk hR1 h1 hR2
            go_wp2_with (go_at_call 17; refine hcall.mono ?_; rintro en w' ⟨rfl, hbec⟩)
            go_roundw
            case rel => exact ⟨2, rfl, by omega, by rw [hst.out]; exact HR2.out.after hbec, hbec.kept.row hW1.out (by decide) (by decide) (by decide), hbec.kept.row hE1.out (by decide) (by decide) (by decide)⟩
            case measure => simp [intOf]
          · have hb : ((3 : Int) == e.k) = false := by simp; omega
            have hst : Hid (stepJ st e 2 = stepJ st e 1) := by show stepJ st e 2 = _; simp [stepJ, St.step, hk]
            clear hk
            go_wp2
            go_roundw
            case rel => exact ⟨2, rfl, by omega, by rw [hst.out]; exact hR1.out, hW1.out, hE1.out⟩
            case measure => simp [intOf]
        · clear d0 d1 d2 d3 f0 f1 f2
          go_wp2
          go_roundw
          case rel => exact ⟨i + 1, by go_num, by omega, by rw [hstep.out]; exact HR.out, HW.out⟩
          case measure => simp [intOf]; omega
    · obtain rfl : i = m := by omega
      have hR := HR.out
      have hrun : Hid (runT (l.take i) = runT (l.take 200000)) := by rw [HT.out]; exact rfl
      have hats := runT_atMost (l.take i)
      have hats2 := hats.le (by rw [List.length_take]; omega : (l.take i).length ≤ 200000)
      obtain ⟨st, hst⟩ : ∃ st, st = runT (l.take i) := ⟨_, rfl⟩
      rw [← hst] at hR hrun hats2
      obtain ⟨allv, opv, vs, hts, hkept⟩ := hR
      obtain ⟨Aa, ca, rfl⟩ := own_shape hts.all
      have hal := hats2.all
      have hown := Lib.hid hts.all
      have hdep := Lib.hid hats2.dep
      have hbel := Lib.hid hkept.below
      have d0 : w1.cell? ⟨w.heap.size + 1, 0, none⟩ = some (.slice Aa st.all.length ca) := hts.row.cell 0
      have hlow := hts.low.2.2.2
      clear hts hats hats2 hkept hst HW HR
      go_wp2_with fail
      have htabO : Lib.TabBelow Tryd.prog w1.heap.size w1 "internal/strconv.uint64pow10" .u64 Lib.pow10Tab := Lib.tabBelow_of_tabIs (Lib.tabBelow_of_tabIs HTAB.out w1 hbel.out)
      have HTO := Lib.hid htabO
      clear htabO d0
      go_loopw [9, 55] (fun b v wr => ∃ k : Nat, v = .int .i64 k ∧ k ≤ st.all.length ∧ Hid (OwnB w1.heap.size wr b (outOf ((st.all.take k).map Rec.cl))) ∧ Hid (KeptX [5] w1.heap.size w1 wr)) (fun _ v _ => st.all.length - (intOf v).toNat)
      case atStart => exact ⟨0, rfl, Nat.zero_le _, OwnB.nil _ _, KeptX.refl _ _ _⟩
      case round =>
        rename World => w2
        obtain ⟨k, rfl, hk, HO, HK⟩ := hrel
        by_cases hlt : k < st.all.length
        · obtain ⟨r, hr⟩ : ∃ r, st.all[k]? = some r := ⟨_, List.getElem?_eq_getElem hlt⟩
          obtain ⟨ga, rfl, _, hca⟩ := own_addr hown.out (by omega)
          have how := HK.out.own hown.out (by decide)
          have c0 : w2.cell? ⟨ga, k * 6, none⟩ = _ := own_rec (j := 0) how hr (by omega) rfl
          have c1 := own_rec (j := 1) how hr (by omega) rfl
          have c2 := own_rec (j := 2) how hr (by omega) rfl
          have c3 := own_rec (j := 3) how hr (by omega) rfl
          have c4 := own_rec (j := 4) how hr (by omega) rfl
          have c5 := own_rec (j := 5) how hr (by omega) rfl
          have hdk := hdep.out r (List.mem_of_getElem? hr)
          have hsz2 := HK.out.size
          have hX : KeptX [5] w1.heap.size w1 (w2.alloc (.cells #[.int .i64 r.e.k, .int .i64 r.e.p, .string r.e.s, .int .i64 r.d, .bool r.en, .bool r.lf] 46)) := HK.out.alloc hsz2 _
          have hRX : Row (w2.alloc (.cells #[.int .i64 r.e.k, .int .i64 r.e.p, .string r.e.s, .int .i64 r.d, .bool r.en, .bool r.lf] 46)) w2.heap.size 46 r.cells := Row.made w2 46 _
          obtain ⟨pre, hpre⟩ : ∃ pre, pre = outOf ((st.all.take k).map Rec.cl) := ⟨_, rfl⟩
          have hplen : pre.length ≤ 200000 * 123 := by
            have := out_length ((st.all.take k).map Rec.cl) (by
              intro c hc
              obtain ⟨q, hq, rfl⟩ := List.mem_map.1 hc
              have := hdep.out q (List.mem_of_mem_take hq)
              show q.d < _
              omega)
            rw [← hpre] at this
            simp only [List.length_map, List.length_take] at this
            omega
          rw [← hpre] at HO
          have hlk := line_length r.cl (by show r.d < _; omega)
          have hitoa := decDigits_short r.d (by omega)
          have hcall := call_int w1.heap.size _ _ pre r.d hdk (HO.out.alloc (.cells #[.int .i64 r.e.k, .int .i64 r.e.p, .string r.e.s, .int .i64 r.d, .bool r.en, .bool r.lf] 46)) hX.size (by omega) (HTO.out.on hX.below)
          have HX := Lib.hid hX
          have HRX := Lib.hid hRX
          have HPRE := Lib.hid hpre
          have HR := Lib.hid hr
          clear hX hRX hpre how hr
          obtain ⟨m2, hm2⟩ : ∃ m2, m2 = min r.e.s.size 100 := ⟨_, rfl⟩
          have hmin2 : min (r.e.s.size : Int) 100 = (m2 : Int) := by omega
          go_wp2_with (first
            | (go_at_call 18; refine hcall.mono ?_; rintro en w3 ⟨v3, rfl, ho3, hk3⟩)
            | (at_builtin; refine put_b (.tmp 63) (.tmp 64) w1.heap.size _ (pre ++ Lib.itoa r.d) [32] _ _ rfl rfl rfl ho3 rfl rfl (by simp; omega) (by have := HX.out.size; have := hk3.size; omega) ?_; intro v4 w4 ho4 hk4
               have r4 : Row w4 w2.heap.size 46 r.cells := hk4.row (hk3.row HRX.out (by decide)) (by decide)
               have t4 : w4.cell? ⟨w2.heap.size, 2, none⟩ = some (.string r.e.s) := r4.cell 2))
          obtain ⟨p2, hp2⟩ : ∃ p2, p2 = pre ++ Lib.itoa r.d ++ [32] := ⟨_, rfl⟩
          have hp2l : p2.length ≤ 200000 * 123 + 20 := by rw [hp2]; simp; omega
          rw [← hp2] at ho4
          have HK4 : Hid (KeptX [5] w1.heap.size w1 w4) := (HX.out.trans hk3).trans hk4
          have HO4 := Lib.hid ho4
          have HR4 := Lib.hid r4
          have HP2 := Lib.hid hp2
          clear hcall ho3 hk3 hk4 ho4 r4 t4 hp2 HX HRX
          go_loopw [9, 71] (fun b v wi => ∃ t : Nat, v = .int .i64 t ∧ t ≤ m2 ∧ Hid (OwnB w1.heap.size wi b (p2 ++ (shown r.e.s).take t)) ∧ Hid (KeptX [5] w1.heap.size w1 wi) ∧ Hid (Row wi w2.heap.size 46 r.cells)) (fun _ v _ => m2 - (intOf v).toNat)
          case atStart => exact ⟨0, rfl, Nat.zero_le _, by simpa using HO4, HK4, HR4⟩
          case round =>
            rename World => w5
            clear HO4 HK4 HR4
            obtain ⟨t, rfl, ht, HO5, HK5, HR5⟩ := hrel
            have t2 : w5.cell? ⟨w2.heap.size, 2, none⟩ = some (.string r.e.s) := HR5.out.cell 2
            have t4 : w5.cell? ⟨w2.heap.size, 4, none⟩ = some (.bool r.en) := HR5.out.cell 4
            have hsz5 := HK5.out.size
            by_cases htl : t < m2
            · have hts : t < r.e.s.size := by omega
              have hsn := Lib.hid (shown_snoc r.e.s t (by omega))
              have htake : ((shown r.e.s).take t).length ≤ 100 := by rw [List.length_take, shown_length]; omega
              by_cases hlow32 : r.e.s[t] < 32
              · have hb : decide ((r.e.s[t].toNat : Int) < 32) = true := by
                  have : r.e.s[t].toNat < 32 := UInt8.lt_iff_toNat_lt.1 hlow32
                  exact decide_eq_true (by omega)
                have hsh : Hid (shownB r.e.s[t] = 63) := by show shownB _ = _; simp [shownB, hlow32]
                clear hlow32
                go_wp2_with (at_builtin; refine put_b (.tmp 80) (.tmp 81) w1.heap.size _ (p2 ++ (shown r.e.s).take t) [63] _ _ rfl rfl rfl HO5.out rfl rfl (by simp; omega) hsz5 ?_; intro v6 w6 ho6 hk6)
                go_roundw
                case rel => exact ⟨t + 1, by go_num, by omega, by rw [hsn.out, hsh.out, ← List.append_assoc]; exact ho6, HK5.out.trans hk6, hk6.row HR5.out (by decide)⟩
                case measure => simp [intOf]; omega
              · have hb : decide ((r.e.s[t].toNat : Int) < 32) = false := by
                  have : ¬ r.e.s[t].toNat < 32 := fun h => hlow32 (UInt8.lt_iff_toNat_lt.2 h)
                  exact decide_eq_false (by omega)
                have hsh : Hid (shownB r.e.s[t] = r.e.s[t]) := by show shownB _ = _; simp [shownB, hlow32]
                clear hlow32
                go_wp2_with (at_builtin; refine put_b (.tmp 83) (.tmp 89) w1.heap.size _ (p2 ++ (shown r.e.s).take t) [r.e.s[t]] _ _ rfl rfl rfl HO5.out rfl rfl (by simp; omega) hsz5 ?_; intro v6 w6 ho6 hk6)
                go_roundw
                case rel => exact ⟨t + 1, by go_num, by omega, by rw [hsn.out, hsh.out, ← List.append_assoc]; exact ho6, HK5.out.trans hk6, hk6.row HR5.out (by decide)⟩
                case measure => simp [intOf]; omega
            · obtain rfl : t = m2 := by omega
              have hall : (shown r.e.s).take t = shown r.e.s := List.take_of_length_le (by rw [shown_length]; omega)
              have ho5 := HO5.out
              rw [hall] at ho5
              have hshl : (shown r.e.s).length ≤ 100 := by rw [shown_length]; omega
              have hlast : Hid (outOf ((st.all.take (k + 1)).map Rec.cl) = pre ++ r.cl.line) := by
                show outOf _ = _
                rw [List.take_succ_eq_append_getElem hlt, List.map_append, HPRE.out]
                have : st.all[k] = r := (List.getElem?_eq_some_iff.1 HR.out).2
                rw [this]
                exact out_snoc _ _
              clear hall HO5
              cases hen : r.en with
              | true =>
                rw [hen] at t4
                have hline : Hid (p2 ++ shown r.e.s ++ [10] = pre ++ r.cl.line) := by
                  show p2 ++ shown r.e.s ++ [10] = _
                  rw [HP2.out]
                  simp [Cl.line, Rec.cl, hen]
                go_wp2_with (at_builtin; refine put_b (.tmp 98) (.tmp 99) w1.heap.size _ (p2 ++ shown r.e.s) [10] _ _ rfl rfl rfl ho5 rfl rfl (by simp; omega) hsz5 ?_; intro v6 w6 ho6 hk6)
                go_roundw
                case rel => exact ⟨k + 1, by go_num, by omega, by rw [hlast.out, ← hline.out]; exact ho6, HK5.out.trans hk6⟩
                case measure => simp [intOf]; omega
              | false =>
                rw [hen] at t4
                have hline : Hid (p2 ++ shown r.e.s ++ [32, 33] ++ [10] = pre ++ r.cl.line) := by
                  show p2 ++ shown r.e.s ++ [32, 33] ++ [10] = _
                  rw [HP2.out]
                  simp [Cl.line, Rec.cl, hen]
                go_wp2_with (first
                  | (at_builtin; refine put_b (.tmp 95) (.tmp 96) w1.heap.size _ (p2 ++ shown r.e.s) [32, 33] _ _ rfl rfl rfl ho5 rfl rfl (by simp; omega) hsz5 ?_; intro v6 w6 ho6 hk6)
                  | (at_builtin; refine put_b (.tmp 98) (.tmp 99) w1.heap.size _ (p2 ++ shown r.e.s ++ [32, 33]) [10] _ _ rfl rfl rfl ho6 rfl rfl (by simp; omega) (by have := hk6.size; omega) ?_; intro v7 w7 ho7 hk7))
                go_roundw
                case rel => exact ⟨k + 1, by go_num, by omega, by rw [hlast.out, ← hline.out]; exact ho7, (HK5.out.trans hk6).trans hk7⟩
                case measure => simp [intOf]; omega
        · obtain rfl : k = st.all.length := by omega
          have ho := HO.out
          rw [List.take_length] at ho
          have hconv := conv_own ho
          have hpost : Hid (Below w.heap.size w w2) := by
            show Below w.heap.size w w2
            exact hbel.out.trans (HK.out.low (by omega)).below
          clear HO ho
          go_wp2_with fail
          go_ret
          exact ⟨by rw [← hrun.out]; rfl, hpost.out⟩
end Go.Proofs.YtcalmojhdpagoaaDoor
