/- The card of the law NumberTexts. Conditions: none but those of the given statement. -/
import Derived.Test.YtehakhplglhkdaaGreatDoorCards
import Derived.Test.YtehakhplglhkdaaGreatDoorTie
import Derived.Test.YtehakhplglhkdaaGreatDoorGlob
import Derived.Test.YtehakhplglhkdaaGreatDoorTexts
import Derived.Carry
import Derived.Lay
import Derived.Deep.DeepHandedRow
import Derived.SevenTiedAt
namespace Go.Proofs.YtehakhplglhkdaaGreatDoor
open Go.ChangeShapes Go.WideShapes Go.ChangeAt Go.RowKit
open Go.ChangeMaps (open_string shut_string)
set_option linter.unusedVariables false

theorem numberTexts_own : ownKnob Tryz.prog.godebug = none := by kernel_rfl
theorem numberTexts_laidOut : laidOutB Tryz.prog = true := by kernel_rfl

theorem gPow : Tryz.prog.globalNamed "internal/strconv.uint64pow10" = some 4 := by kernel_rfl
theorem gPowType : (Tryz.prog.globals[4]?).map (·.type) = some 149 := by kernel_rfl
theorem cells149 : Tryz.prog.cellsOf 149 = 20 := by kernel_rfl
theorem cells22 : Tryz.prog.cellsOf 22 = 1 := by kernel_rfl
theorem pow_data : (Rows.laid_internal_strconv_uint64pow10 (H := Unit)) = Lib.tabData .u64 Lib.pow10Tab := by kernel_rfl
theorem tab_of {W : World} {x1 x2 x3 x4 x5 x6 x7 x8 : String × DataW Unit} {r : List (String × DataW Unit)} (h : laidMet Tryz.prog (x1 :: x2 :: x3 :: x4 :: x5 :: x6 :: x7 :: x8 :: ("internal/strconv.uint64pow10", Rows.laid_internal_strconv_uint64pow10) :: r) W) :
    Lib.TabIs Tryz.prog W "internal/strconv.uint64pow10" .u64 Lib.pow10Tab := by
  have h8 := laid_tail (laid_tail (laid_tail (laid_tail (laid_tail (laid_tail (laid_tail (laid_tail h)))))))
  rw [pow_data] at h8
  exact Lib.tabIs_of_head gPow gPowType Tryz.underlying149 Tryz.underlying22 cells22 cells149 h8
theorem texts_reach {H : Type} {t a b c : ByteArray} {ts : List TypeId} {gs : List (DataW H)} (h : (DataW.weightsEach Tryz.prog (Tryz.f9.params.toList ++ ts) ([.lit (.string t.data.toList), .lit (.string a.data.toList), .lit (.string b.data.toList), .lit (.string c.data.toList)] ++ gs)).all (· ≤ reachBytes) = true) :
    a.size ≤ 4611686018427387903 ∧ b.size ≤ 4611686018427387903 ∧ c.size ≤ 4611686018427387903 := by
  rw [Tryz.params9] at h
  simp only [List.cons_append, List.nil_append, DataW.weightsEach, DataW.weights, List.all_cons, Bool.and_eq_true, reachBytes, Array.length_toList] at h
  obtain ⟨_, k2, k3, k4, _⟩ := h
  have k2 := of_decide_eq_true k2
  have k3 := of_decide_eq_true k3
  have k4 := of_decide_eq_true k4
  have e1 : a.size = a.data.size := rfl
  have e2 : b.size = b.data.size := rfl
  have e3 : c.size = c.data.size := rfl
  omega
set_option maxRecDepth 100000 in
theorem numberTexts_contract (H : Type) (enc : TypeId × Value → H) (W : World) (base : Nat) (args : Array Value) (ds gs : List (DataW H)) (before : List MemPlace)
    (hval : ∀ (j : Nat) t v, Tryz.f9.params[j]? = some t → args[j]? = some v → Value.okWide Tryz.prog W .any base t v)
    (hW : DataW.Whole enc Tryz.prog Tryz.f9.params.toList Rows.numberTextsSpec.vars false W args.toList ds gs before)
    (hR0 : (DataW.weightsEach Tryz.prog (Tryz.f9.params.toList ++ (OpenSpec.ofChange Rows.numberTextsSpec).bare.plain.varTypes Tryz.prog) (ds ++ gs)).all (· ≤ reachBytes) = true)
    (hL : laidMetH Tryz.prog Rows.numberTextsRow.laid W) :
    Calls Tryz.prog 9 args W fun e W' => ∃ v, e = .returned v ∧ Rows.numberTextsSpec.post enc Tryz.prog Tryz.f9 false true false false W args v W' := by
  have hG : Glob W := by
    rw [MakeChecks.laidMetH_plain _ _ _ (by kernel_rfl)] at hL
    exact glob_of hL
  have hT : Lib.TabIs Tryz.prog W "internal/strconv.uint64pow10" .u64 Lib.pow10Tab := by
    rw [MakeChecks.laidMetH_plain _ _ _ (by kernel_rfl)] at hL
    exact tab_of hL
  have hW' := hW
  obtain ⟨p, q, hA0, hV, rfl, hfz, hnd⟩ := hW
  have hA : DataW.TrodAll enc Tryz.prog W 0 (fun _ => true) true Tryz.f9.params.toList args.toList ds p := hA0
  obtain ⟨rfl, rfl⟩ := trodVars_none hV
  simp only [List.append_nil] at hW'
  rw [Tryz.params9] at hA hval
  obtain ⟨v0, vs0, d0, ds0, p0, q0, hargs, rfl, rfl, h0, r0⟩ := trodAll_cons hA
  obtain ⟨v1, vs1, d1, ds1, p1, q1, rfl, rfl, rfl, h1, r1⟩ := trodAll_cons r0
  obtain ⟨v2, vs2, d2, ds2, p2, q2, rfl, rfl, rfl, h2, r2⟩ := trodAll_cons r1
  obtain ⟨v3, vs3, d3, ds3, p3, q3, rfl, rfl, rfl, h3, r3⟩ := trodAll_cons r2
  obtain ⟨rfl, rfl, rfl⟩ := trodAll_nil r3
  obtain rfl : args = #[v0, v1, v2, v3] := by cases args; simp_all
  obtain ⟨t, rfl, rfl, rfl, ht⟩ := open_string Tryz.underlying9 (hval 0 9 v0 rfl rfl) h0
  obtain ⟨a, rfl, rfl, rfl, wa⟩ := open_string Tryz.underlying9 (hval 1 9 v1 rfl rfl) h1
  obtain ⟨b, rfl, rfl, rfl, wb⟩ := open_string Tryz.underlying9 (hval 2 9 v2 rfl rfl) h2
  obtain ⟨c, rfl, rfl, rfl, wc⟩ := open_string Tryz.underlying9 (hval 3 9 v3 rfl rfl) h3
  obtain ⟨ra, rb, rc⟩ := texts_reach hR0
  clear hA0 hR0
  refine (numberTexts_any t a b c W ra rb rc hG hT).mono fun e W' ⟨he, bel⟩ => ?_
  subst he
  exact ⟨_, rfl, _, _, _, [], _, [], hW', trodAll_mk1 (shut_bool Tryz.underlying4 _), (trodAll_cons_mk (shut_string Tryz.underlying9 ht) (trodAll_cons_mk (shut_string Tryz.underlying9 wa) (trodAll_cons_mk (shut_string Tryz.underlying9 wb) (trodAll_cons_mk (shut_string Tryz.underlying9 wc) trodAll_mk0)))), rfl, bel.frame _, fun h => by cases h⟩

theorem numberTexts_laid (os : Os) : laidMet Tryz.prog Rows.numberTextsRow.laid ((World.laidAll Tryz.prog os Rows.numberTextsRow.laid).forCall (fun _ _ => 0) ⟨#[], #[.string ⟨#[]⟩, .string ⟨#[]⟩, .string ⟨#[]⟩, .string ⟨#[]⟩], []⟩).memory :=
  laidMet_laidAll _ (by kernel_rfl) (by kernel_rfl)
theorem numberTexts_reads (os : Os) {H : Type} (enc : TypeId × Value → H) : ∃ places, DataW.whole enc Tryz.prog ((World.laidAll Tryz.prog os Rows.numberTextsRow.laid).forCall (fun _ _ => 0) ⟨#[], #[.string ⟨#[]⟩, .string ⟨#[]⟩, .string ⟨#[]⟩, .string ⟨#[]⟩], []⟩).memory Tryz.f9.params.toList Rows.numberTextsSpec.vars false (#[.string ⟨#[]⟩, .string ⟨#[]⟩, .string ⟨#[]⟩, .string ⟨#[]⟩] : Array Value).toList 8 = some ([.lit (.string []), .lit (.string []), .lit (.string []), .lit (.string [])], [], places) :=
  ⟨[], by kernel_rfl⟩
theorem numberTexts_shaped (os : Os) : ((World.laidAll Tryz.prog os Rows.numberTextsRow.laid).forCall (fun _ _ => 0) ⟨#[], #[.string ⟨#[]⟩, .string ⟨#[]⟩, .string ⟨#[]⟩, .string ⟨#[]⟩], []⟩).Shaped Tryz.prog :=
  World.shaped_of_ZipB (by kernel_rfl) (by kernel_rfl)

set_option maxRecDepth 100000 in
theorem numberTexts_lifted (os : Os) (started : os.Started) (H : Type) (enc : TypeId × Value → H) (F : Stop.Interp) :
    ReturnsInHanded {} Tryz.checked os 9 .any ((OpenSpec.ofChange Rows.numberTextsSpec).preRow enc Tryz.prog Tryz.f9 Rows.numberTextsRow.domain false Rows.numberTextsRow.laid) (((OpenSpec.ofChange Rows.numberTextsSpec).at F).post enc Tryz.prog Tryz.f9 false true false false) := by
  obtain ⟨places, hx⟩ := numberTexts_reads os enc
  refine returnsInHanded_of_row (C := Tryz.checked) (s := OpenSpec.ofChange Rows.numberTextsSpec) numberTexts_own started (by kernel_rfl) Tryz.func9 ?_ ?_
  · refine ⟨World.laidAll Tryz.prog os Rows.numberTextsRow.laid, fun _ _ => 0, ⟨#[], #[.string ⟨#[]⟩, .string ⟨#[]⟩, .string ⟨#[]⟩, .string ⟨#[]⟩], []⟩, World.laidAll_os _ _ _, numberTexts_shaped os, rfl, ?_, ?_, ?_⟩
    · exact (Input.okWide_of_okWideB (by kernel_rfl)).2
    · exact OpenSpec.preRow_of_cond 8 hx (by kernel_rfl) (fun k hk => by cases hk) (by kernel_rfl) (numberTexts_laid os)
    · simp only [Assume.holds]
      exact ⟨by simp, by simp, fun _ => Modest.zero, by simp, by simp⟩
  intro W base args ds gs before hval hW _ _ hR hL _ _
  exact numberTexts_contract H enc W base args ds gs before hval hW hR hL

theorem numberTexts_said : Rows.NumberTextsSaid :=
  OpenClaim.holds_of_cond 9 Tryz.f9 rfl rfl rfl rfl rfl rfl rfl ⟨rfl, rfl, rfl, rfl, rfl⟩ rfl rfl rfl rfl rfl (by kernel_rfl) Tryz.func9 (by kernel_rfl)
    (of_decide_eq_true (by kernel_rfl)) (by unfold Func.isWrapper; first | (rw [if_pos (by decide +kernel)]; kernel_rfl) | (rw [if_neg (by decide +kernel)]; exact ⟨rfl, rfl⟩))
    (fun os started H enc _ F => by rw [OpenClaim.pre_eq_preRow]; exact numberTexts_lifted os started H enc F)

theorem numberTexts_plain (f : FuncId) (fn : Func) (hf : Tryz.pinned.checked.prog.funcNamed "guise/guiselaw6.NumberTexts" = some f) (hfn : Tryz.pinned.checked.prog.funcs[f]? = some fn) :
    true = Tryz.pinned.checked.prog.looks [] ∧ ∀ (j : Nat) t, fn.params[j]? = some t → Tryz.pinned.checked.prog.wantsStandIn t = false := by
  obtain rfl : f = 9 := Option.some.inj ((show Tryz.prog.funcNamed "guise/guiselaw6.NumberTexts" = some 9 by kernel_rfl).symm.trans hf) |>.symm
  obtain rfl : fn = Tryz.f9 := (Option.some.inj (Tryz.func9.symm.trans hfn)).symm
  refine ⟨by kernel_rfl, fun j t ht => ?_⟩
  rw [Tryz.params9] at ht
  have hm := Array.mem_of_getElem? ht
  simp only [List.mem_toArray, List.mem_cons, List.not_mem_nil, or_false] at hm
  rcases hm with rfl | rfl | rfl | rfl
  · exact (show Tryz.prog.wantsStandIn 9 = false by kernel_rfl)
  · exact (show Tryz.prog.wantsStandIn 9 = false by kernel_rfl)
  · exact (show Tryz.prog.wantsStandIn 9 = false by kernel_rfl)
  · exact (show Tryz.prog.wantsStandIn 9 = false by kernel_rfl)

theorem numberTexts_card : Rows.NumberTextsCardSaid :=
  Claim7.holds_tied_plain_at .later [] _ _ _ _ numberTexts_said (fun _ h => by cases h) (by kernel_rfl) (fun _ h => by cases h) numberTexts_row_tie rfl ⟨rfl, rfl⟩ (by kernel_rfl) rfl numberTexts_plain (by kernel_rfl)
end Go.Proofs.YtehakhplglhkdaaGreatDoor
