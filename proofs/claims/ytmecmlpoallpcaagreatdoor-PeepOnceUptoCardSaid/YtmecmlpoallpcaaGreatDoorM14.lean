/- Texts of this proof, put together: Forms, StackC. -/
import Derived.Test.YtmecmlpoallpcaaGreatDoorM13
import Derived.Deep.CutBlock
import Derived.IntWalk
set_option linter.unusedSimpArgs false
/- code.forms: what an operation has. -/
namespace Go.Proofs.YtmecmlpoallpcaaGreatDoor
set_option linter.unusedVariables false
open Go.RowKit Go.Proofs.PeepPlain

def cellsF (f : PeepPlain.Form) : List Value := [.string f.word, .int .i64 f.a, .int .i64 f.text, .string f.takes, .string f.lays]
def formV (f : PeepPlain.Form) : Value := .agg (cellsF f).toArray
def flatF (l : List PeepPlain.Form) : List Value := l.flatMap cellsF
theorem flatF_at (l : List PeepPlain.Form) (i : Nat) (h : i < l.length) : (flatF l)[i * 5]? = some (.string l[i].word) ∧ (flatF l)[i * 5 + 1]? = some (.int .i64 l[i].a) ∧ (flatF l)[i * 5 + 2]? = some (.int .i64 l[i].text) ∧ (flatF l)[i * 5 + 3]? = some (.string l[i].takes) ∧ (flatF l)[i * 5 + 4]? = some (.string l[i].lays) := by
  induction l generalizing i with
  | nil => simp at h
  | cons e l ih =>
    cases i with
    | zero => simp [flatF, cellsF]
    | succ i =>
      have := ih i (by simpa using h)
      simp only [flatF, List.flatMap_cons] at *
      have e5 : (cellsF e).length = 5 := rfl
      refine ⟨?_, ?_, ?_, ?_, ?_⟩
      · rw [List.getElem?_append_right (by omega), show (i + 1) * 5 - (cellsF e).length = i * 5 by omega]; simpa using this.1
      · rw [List.getElem?_append_right (by omega), show (i + 1) * 5 + 1 - (cellsF e).length = i * 5 + 1 by omega]; simpa using this.2.1
      · rw [List.getElem?_append_right (by omega), show (i + 1) * 5 + 2 - (cellsF e).length = i * 5 + 2 by omega]; simpa using this.2.2.1
      · rw [List.getElem?_append_right (by omega), show (i + 1) * 5 + 3 - (cellsF e).length = i * 5 + 3 by omega]; simpa using this.2.2.2.1
      · rw [List.getElem?_append_right (by omega), show (i + 1) * 5 + 4 - (cellsF e).length = i * 5 + 4 by omega]; simpa using this.2.2.2.2
theorem size100 : (Tryz.prog.info? 100).map (·.size) = some 5 := by kernel_rfl
theorem size148 : (Tryz.prog.info? 148).map (·.size) = some (flatF formL).length := by kernel_rfl
def zeroF : List Value := cellsF form0
def zeros148 : List Value := (List.replicate 54 zeroF).flatten
theorem zeros148_length : zeros148.length = 270 := by kernel_rfl
theorem flatF_length : (flatF formL).length = 270 := by kernel_rfl
theorem flatF_one : ∀ u ∈ flatF formL, u.oneCell' = true := by
  intro u hu
  simp only [flatF, List.mem_flatMap, cellsF] at hu
  obtain ⟨e, _, h⟩ := hu
  simp at h
  rcases h with rfl | rfl | rfl | rfl | rfl <;> rfl
theorem alloc148 (w : World) : (Instr.alloc 148 true (.tuple #[])).run Tryz.prog w = .ok (.pointer (some ⟨w.heap.size, 0, none⟩)) (w.alloc (.cells zeros148.toArray 148)) := by kernel_rfl
/-- The table's variable, made. -/
theorem step_alloc148 {ops : Array Oper} {rest : List Oper} {o : Oper} {a : Act} {Q : Exit → Act → World → Prop} (w : World) (H : Nat) (hgd : o.guard = none) (ho : o.op = .alloc 148) (hH : w.heap.size = H)
    (h : ∀ w', Row w' H 148 zeros148 → Below H w w' → w'.heap.size = H + 1 → wpList Tryz.prog ops Q rest (a.put o.dst (.pointer (some ⟨H, 0, none⟩))) w') : wpList Tryz.prog ops Q (o :: rest) a w := by
  subst hH
  refine wpList_plain hgd fun K hK => ?_
  unfold Oper.wp execOp
  simp only [ho, Sem.run_bind, alloc148, Result.andThen_ok, Sem.run_pure]
  exact hK _ _ (h _ (Row.made _ _ _) (below1 w _) (by simp))
/-- The table, built. -/
theorem step_build148 {ops : Array Oper} {rest : List Oper} {o : Oper} {a : Act} {Q : Exit → Act → World → Prop} (w : World) (parts : Array (Nat × Operand)) (hgd : o.guard = none) (ho : o.op = .build 148 parts)
    (hr : (Instr.build 148 (parts.map fun (i, x) => (i, a.eval x))).run Tryz.prog w = .ok (.agg (flatF formL).toArray) w)
    (h : ∀ v, v = .agg (flatF formL).toArray → wpList Tryz.prog ops Q rest (a.put o.dst v) w) : wpList Tryz.prog ops Q (o :: rest) a w := by
  refine wpList_plain hgd fun K hK => ?_
  unfold Oper.wp execOp
  simp only [ho, Sem.run_bind, hr, Result.andThen_ok, Sem.run_pure]
  exact hK _ _ (h _ rfl)
theorem form_get {k : Nat} (h : k < 54) : formL[k]'h = formOf k := by
  unfold formOf
  rw [Int.toNat_natCast, List.getD_eq_getElem?_getD, List.getElem?_eq_getElem h]
  rfl
theorem whole_row {old vs : List Value} (h : vs.length = old.length) : old.take 0 ++ vs ++ old.drop (0 + vs.length) = vs := by
  rw [Nat.zero_add, h, List.drop_length]
  simp
theorem ret_100 {fn : Func} {p : Tmp} (h : fn.results = #[.cell p 100]) (tmps : Array Value) (w : World) (g : Nat) (f : PeepPlain.Form) (hp : tmps.getD p undef = .pointer (some ⟨g, 0, none⟩)) (hr : Row w g 100 (cellsF f)) :
    (results fn tmps).run Tryz.prog w = .ok (formV f) w :=
  results_cell_row h tmps w g 100 (cellsF f).toArray (0, 0) _ hp hr Tryz.underlying100 rfl (by rw [size100]; rfl)
theorem form_off {op : Int} (h : op < 1 ∨ 53 < op) : formOf op = form0 := by
  unfold formOf
  rcases h with h | h
  · have : op.toNat = 0 := by omega
    rw [this]
    rfl
  · rw [List.getD_eq_getElem?_getD, List.getElem?_eq_none (by show 54 ≤ op.toNat; omega)]
    rfl
/-- Behind the table: it stands. -/
def Table (w wx : World) : Prop := Row wx (w.heap.size + 1) 148 (flatF formL) ∧ Row wx w.heap.size 100 zeroF ∧ Below w.heap.size w wx
set_option maxRecDepth 200000 in
set_option maxHeartbeats 8000000 in
theorem forms_any (op : Int) (w : World) :
    Calls Tryz.prog 70 #[.int .i64 op] w fun e w' => e = .returned (formV (formOf op)) ∧ Below w.heap.size w w' := by
  go_enter Tryz.func70, Tryz.ntmps70
  go_upto_region 1 with fail
  go_cut [2, 3] from 4 (fun p2 p3 wx => p2 = .pointer (some ⟨w.heap.size, 0, none⟩) ∧ p3 = .pointer (some ⟨w.heap.size + 1, 0, none⟩) ∧ Hid (Table w wx))
  case first =>
    go_wp2_with (first
      | (with_reducible (refine step_build148 _ _ (by rfl) (by rfl) ?_ ?_); kernel_rfl; intro V hV; have HV := Lib.hid hV; clear hV)
      | (with_reducible (refine step_alloc148 _ (w.heap.size + 1) (by rfl) (by rfl) (by simp) ?_); intro w3 hr3 hb3 hs3
         have R3 : Hid (Row w3 (w.heap.size + 1) 148 zeros148) := Lib.hid hr3
         have Z3 : Hid (Row w3 w.heap.size 100 zeroF) := Lib.hid ((Row.made w 100 zeroF).below hb3 (by omega))
         have B3 : Hid (Below w.heap.size w w3) := Lib.hid ((below1 w _).trans (below_low hb3 (by omega)))
         clear hr3 hb3 hs3)
      | (have hv9 := HV.out; refine put_at (.tmp 3) (.tmp 58) 148 (w.heap.size + 1) 0 148 zeros148 (flatF formL) _ _ rfl rfl rfl rfl (by rw [HV.out]; rfl) size148 flatF_one R3.out (by rw [zeros148_length, flatF_length]; omega) ?_
         intro w4 hr4 hb4 hf4
         rw [whole_row (by rw [zeros148_length, flatF_length])] at hr4
         have T4 : Hid (Table w w4) := Lib.hid ⟨hr4, (hf4 w.heap.size (by omega)).trans Z3.out, B3.out.trans (hb4 w.heap.size (by omega))⟩
         clear hr4 hb4 hf4 hv9))
    go_meet
    case rel => exact ⟨rfl, rfl, T4⟩
  case rest =>
    obtain ⟨rfl, rfl, HT⟩ := hcut
    by_cases hop : 1 ≤ op ∧ op ≤ 53
    · obtain ⟨k, rfl⟩ : ∃ k : Nat, op = k := ⟨op.toNat, by omega⟩
      have hk : k < formL.length := by show k < 54; omega
      obtain ⟨a0, a1, a2, a3, a4⟩ := flatF_at formL k hk
      have hi : (0 : Int) ≤ (k : Int) ∧ (k : Int) < 54 := by omega
      have hn1 : ¬ (k : Int) < 1 := by omega
      have hn2 : ¬ (53 : Int) < (k : Int) := by omega
      obtain ⟨F, hF⟩ : ∃ F, F = formL[k] := ⟨_, rfl⟩
      rw [← hF] at a0 a1 a2 a3 a4
      have HF : Hid (formOf k = F) := Lib.hid (by rw [hF]; exact (form_get (by omega)).symm)
      have c0 := (HT.out.1.cell (k * 5)).trans a0
      have c1 := (HT.out.1.cell (k * 5 + 1)).trans a1
      have c2 := (HT.out.1.cell (k * 5 + 2)).trans a2
      have c3 := (HT.out.1.cell (k * 5 + 3)).trans a3
      have c4 := (HT.out.1.cell (k * 5 + 4)).trans a4
      clear a0 a1 a2 a3 a4 hF hk hop
      go_wp2_with (first
        | (refine put_at (.tmp 2) (.tmp 68) 100 w.heap.size 0 100 zeroF (cellsF F) _ _ rfl rfl rfl rfl rfl size100 (by simp [cellsF, Value.oneCell']) HT.out.2.1 (by simp [zeroF, cellsF]) ?_
           intro w5 hr5 hb5 hf5
           rw [whole_row (by simp [zeroF, cellsF])] at hr5
           have R5 := Lib.hid hr5
           have B5 := Lib.hid (HT.out.2.2.trans (hb5 w.heap.size (Nat.le_refl _)))
           clear hr5 hb5 hf5))
      refine bodyPost_ret (ret_100 rfl _ _ _ F rfl R5.out) rfl ?_
      exact ⟨by rw [HF.out], B5.out⟩
    · have HF : Hid (formOf op = form0) := Lib.hid (form_off (by omega))
      by_cases h1 : op < 1
      · clear hop
        go_wp2_with (first
          | (refine put_at (.tmp 2) (.tmp 65) 100 w.heap.size 0 100 zeroF (cellsF form0) _ _ rfl rfl rfl rfl rfl size100 (by simp [cellsF, Value.oneCell']) HT.out.2.1 (by simp [zeroF, cellsF]) ?_
             intro w5 hr5 hb5 hf5
             rw [whole_row (by simp [zeroF, cellsF])] at hr5
             have R5 := Lib.hid hr5
             have B5 := Lib.hid (HT.out.2.2.trans (hb5 w.heap.size (Nat.le_refl _)))
             clear hr5 hb5 hf5))
        refine bodyPost_ret (ret_100 rfl _ _ _ form0 rfl R5.out) rfl ?_
        exact ⟨by rw [HF.out], B5.out⟩
      · have h2 : 53 < op := by omega
        clear hop
        go_wp2_with (first
          | (refine put_at (.tmp 2) (.tmp 65) 100 w.heap.size 0 100 zeroF (cellsF form0) _ _ rfl rfl rfl rfl rfl size100 (by simp [cellsF, Value.oneCell']) HT.out.2.1 (by simp [zeroF, cellsF]) ?_
             intro w5 hr5 hb5 hf5
             rw [whole_row (by simp [zeroF, cellsF])] at hr5
             have R5 := Lib.hid hr5
             have B5 := Lib.hid (HT.out.2.2.trans (hb5 w.heap.size (Nat.le_refl _)))
             clear hr5 hb5 hf5))
        refine bodyPost_ret (ret_100 rfl _ _ _ form0 rfl R5.out) rfl ?_
        exact ⟨by rw [HF.out], B5.out⟩
end Go.Proofs.YtmecmlpoallpcaaGreatDoor

/- code.goes, code.counted. (Printed by gen_stackc.py.) -/
namespace Go.Proofs.YtmecmlpoallpcaaGreatDoor
set_option linter.unusedVariables false
open Go.RowKit Go.Proofs.PeepPlain

theorem goes_form (op : Int) : decide ((formOf op).a = 10) = decide (jumps op) := by
  by_cases h : 0 ≤ op ∧ op ≤ 53
  · obtain ⟨k, rfl⟩ : ∃ k : Nat, op = k := ⟨op.toNat, by omega⟩
    have hk : k < 54 := by omega
    have : ∀ k : Fin 54, decide ((formOf (k.val : Int)).a = 10) = decide (jumps (k.val : Int)) := by decide
    exact this ⟨k, hk⟩
  · have e : formOf op = form0 := form_off (by omega)
    rw [e]
    have : ¬ jumps op := by rintro (h | h | h | h | h) <;> omega
    rw [decide_eq_false this]
    rfl
/-- The contract of code.forms at an operation whose form has a letter. -/
theorem forms_as (op : Int) (F : PeepPlain.Form) (hF : formOf op = F) (w : World) :
    Calls Tryz.prog 70 #[.int .i64 op] w fun e w' => e = .returned (.agg #[.string F.word, .int .i64 F.a, .int .i64 F.text, .string F.takes, .string F.lays]) ∧ Below w.heap.size w w' := by
  subst hF
  exact forms_any op w
theorem field_a (v0 v1 v2 v3 v4 : Value) (w : World) : (Instr.field 100 (.agg #[v0, v1, v2, v3, v4]) 1).run Tryz.prog w = .ok v1 w := by kernel_rfl
set_option maxHeartbeats 4000000 in
theorem goes_walk (op : Int) (w : World) : Calls Tryz.prog 73 #[.int .i64 op] w fun e w' => e = .returned (.bool (decide (jumps op))) ∧ Below w.heap.size w w' := by
  rw [← goes_form]
  obtain ⟨F, hF⟩ : ∃ F, formOf op = F := ⟨_, rfl⟩
  have hf := forms_as op F hF
  have hfd := field_a (.string F.word) (.int .i64 F.a) (.int .i64 F.text) (.string F.takes) (.string F.lays)
  rw [hF]
  clear hF
  by_cases h : F.a = 10
  · have h1 : (F.a == (10 : Int)) = true := beq_iff_eq.2 h
    rw [decide_eq_true h]
    clear h
    go_enter Tryz.func73, Tryz.ntmps73
    go_wp2_with (first
      | (go_at_call 70; refine (hf _).mono ?_; rintro en w2 ⟨rfl, hb2⟩))
    go_ret
    exact ⟨rfl, hb2⟩
  · have h1 : (F.a == (10 : Int)) = false := beq_eq_false_iff_ne.2 h
    rw [decide_eq_false h]
    clear h
    go_enter Tryz.func73, Tryz.ntmps73
    go_wp2_with (first
      | (go_at_call 70; refine (hf _).mono ?_; rintro en w2 ⟨rfl, hb2⟩))
    go_ret
    exact ⟨rfl, hb2⟩
set_option maxRecDepth 20000 in
set_option maxHeartbeats 4000000 in
theorem counted_walk (i : Ins) (w : World) (ha : 0 ≤ i.a ∧ i.a ≤ 100000) (hb : 0 ≤ i.b ∧ i.b ≤ 3) : Calls Tryz.prog 111 #[.agg (cellsI i).toArray] w fun e w' => e = .returned (.tuple #[.int .u8 (counted i).1, .int .i64 (counted i).2]) ∧ Below w.heap.size w w' := by
  obtain ⟨op, a, b, text, pos⟩ := i
  dsimp only at ha hb
  show Calls Tryz.prog 111 #[.agg #[.int .i64 op, .int .i64 a, .int .i64 b, .string text, .int .i64 pos]] w _
  have w1 : wrap64 (2 * a) = 2 * a := by unfold wrap64; omega
  have w2 : IntKind.i64.wrap (2 * a) = 2 * a := IntWalk.i64_in _ (by omega)
  have w3 : IntKind.i64.wrap (a + 1) = a + 1 := IntWalk.i64_in _ (by omega)
  have w4 : IntKind.i64.wrap (a - 1) = a - 1 := IntWalk.i64_in _ (by omega)
  by_cases h27 : op = 27
  · subst h27
    have e : counted ⟨27, a, b, text, pos⟩ = (118, a) := by simp [counted]
    rw [e]
    clear e w1 w2 w3 w4
    go_enter Tryz.func111, Tryz.ntmps111
    go_wp2_with fail
    go_quiet (fail)
    go_wp2_with fail
    go_ret2
    exact ⟨rfl, below_drewN (below1 w _) nq⟩
  · have z27 : True := trivial
    by_cases h29 : op = 29
    · subst h29
      have e : counted ⟨29, a, b, text, pos⟩ = (118, a) := by simp [counted]
      rw [e]
      clear e w1 w2 w3 w4
      go_enter Tryz.func111, Tryz.ntmps111
      go_wp2_with fail
      go_quiet (fail)
      go_wp2_with fail
      go_ret2
      exact ⟨rfl, below_drewN (below1 w _) nq⟩
    · have z29 : True := trivial
      by_cases h46 : op = 46
      · subst h46
        have e : counted ⟨46, a, b, text, pos⟩ = (118, a) := by simp [counted]
        rw [e]
        clear e w1 w2 w3 w4
        go_enter Tryz.func111, Tryz.ntmps111
        go_wp2_with fail
        go_quiet (fail)
        go_wp2_with fail
        go_ret2
        exact ⟨rfl, below_drewN (below1 w _) nq⟩
      · have z46 : True := trivial
        by_cases h47 : op = 47
        · subst h47
          have e : counted ⟨47, a, b, text, pos⟩ = (118, a) := by simp [counted]
          rw [e]
          clear e w1 w2 w3 w4
          go_enter Tryz.func111, Tryz.ntmps111
          go_wp2_with fail
          go_quiet (fail)
          go_wp2_with fail
          go_ret2
          exact ⟨rfl, below_drewN (below1 w _) nq⟩
        · have z47 : True := trivial
          by_cases h48 : op = 48
          · subst h48
            have e : counted ⟨48, a, b, text, pos⟩ = (118, a) := by simp [counted]
            rw [e]
            clear e w1 w2 w3 w4
            go_enter Tryz.func111, Tryz.ntmps111
            go_wp2_with fail
            go_quiet (fail)
            go_wp2_with fail
            go_ret2
            exact ⟨rfl, below_drewN (below1 w _) nq⟩
          · have z48 : True := trivial
            by_cases h49 : op = 49
            · subst h49
              have e : counted ⟨49, a, b, text, pos⟩ = (118, a) := by simp [counted]
              rw [e]
              clear e w1 w2 w3 w4
              go_enter Tryz.func111, Tryz.ntmps111
              go_wp2_with fail
              go_quiet (fail)
              go_wp2_with fail
              go_ret2
              exact ⟨rfl, below_drewN (below1 w _) nq⟩
            · have z49 : True := trivial
              by_cases h28 : op = 28
              · subst h28
                have e : counted ⟨28, a, b, text, pos⟩ = (118, 2 * a) := by simp [counted]
                rw [e]
                clear e w1 w3 w4
                go_enter Tryz.func111, Tryz.ntmps111
                go_wp2_with fail
                go_quiet (fail)
                go_wp2_with fail
                go_ret2
                exact ⟨rfl, below_drewN (below1 w _) nq⟩
              · have z28 : True := trivial
                by_cases h26 : op = 26
                · subst h26
                  have hbb : b = 0 ∨ b = 1 ∨ b = 2 ∨ b = 3 := by omega
                  rcases hbb with rfl | rfl | rfl | rfl
                  · have e : counted ⟨26, a, 0, text, pos⟩ = (118, a + 1) := by simp [counted]
                    rw [e]
                    clear e w1 w2 hb
                    go_enter Tryz.func111, Tryz.ntmps111
                    go_wp2_with fail
                    go_region
                    all_goals (try go_wp2_with fail)
                    all_goals go_ret2
                    all_goals exact ⟨rfl, (by go_grown)⟩
                  · have e : counted ⟨26, a, 1, text, pos⟩ = (118, a) := by simp [counted]
                    rw [e]
                    clear e w1 w2 hb
                    go_enter Tryz.func111, Tryz.ntmps111
                    go_wp2_with fail
                    go_region
                    all_goals (try go_wp2_with fail)
                    all_goals go_ret2
                    all_goals exact ⟨rfl, (by go_grown)⟩
                  · have e : counted ⟨26, a, 2, text, pos⟩ = (118, a) := by simp [counted]
                    rw [e]
                    clear e w1 w2 hb
                    go_enter Tryz.func111, Tryz.ntmps111
                    go_wp2_with fail
                    go_region
                    all_goals (try go_wp2_with fail)
                    all_goals go_ret2
                    all_goals exact ⟨rfl, (by go_grown)⟩
                  · have e : counted ⟨26, a, 3, text, pos⟩ = (118, a - 1) := by simp [counted]
                    rw [e]
                    clear e w1 w2 hb
                    go_enter Tryz.func111, Tryz.ntmps111
                    go_wp2_with fail
                    go_region
                    all_goals (try go_wp2_with fail)
                    all_goals go_ret2
                    all_goals exact ⟨rfl, (by go_grown)⟩
                · have z26 : True := trivial
                  by_cases h53 : op = 53
                  · subst h53
                    have e : counted ⟨53, a, b, text, pos⟩ = (116, a) := by simp [counted]
                    rw [e]
                    clear e w1 w3 w4
                    go_enter Tryz.func111, Tryz.ntmps111
                    go_wp2_with fail
                    go_quiet (fail)
                    go_wp2_with fail
                    go_ret2
                    exact ⟨rfl, below_drewN (below1 w _) nq⟩
                  · have z53 : True := trivial
                    have e : counted ⟨op, a, b, text, pos⟩ = (118, 0) := by simp [counted, *]
                    rw [e]
                    have b27 : (op == (27 : Int)) = false := beq_eq_false_iff_ne.2 h27
                    have b29 : (op == (29 : Int)) = false := beq_eq_false_iff_ne.2 h29
                    have b46 : (op == (46 : Int)) = false := beq_eq_false_iff_ne.2 h46
                    have b47 : (op == (47 : Int)) = false := beq_eq_false_iff_ne.2 h47
                    have b48 : (op == (48 : Int)) = false := beq_eq_false_iff_ne.2 h48
                    have b49 : (op == (49 : Int)) = false := beq_eq_false_iff_ne.2 h49
                    have b28 : (op == (28 : Int)) = false := beq_eq_false_iff_ne.2 h28
                    have b26 : (op == (26 : Int)) = false := beq_eq_false_iff_ne.2 h26
                    have b53 : (op == (53 : Int)) = false := beq_eq_false_iff_ne.2 h53
                    clear e w1 w2 w3 w4 h27 h29 h46 h47 h48 h49 h28 h26 h53
                    go_enter Tryz.func111, Tryz.ntmps111
                    go_wp2_with fail
                    go_ret2
                    exact ⟨rfl, below1 w _⟩
end Go.Proofs.YtmecmlpoallpcaaGreatDoor
