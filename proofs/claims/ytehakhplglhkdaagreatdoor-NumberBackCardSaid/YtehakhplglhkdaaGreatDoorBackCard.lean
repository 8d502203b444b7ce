/- The card of the law NumberBack. Conditions: none but those of the given statement. -/
import Derived.Test.YtehakhplglhkdaaGreatDoorCards
import Derived.Test.YtehakhplglhkdaaGreatDoorTie
import Derived.Test.YtehakhplglhkdaaGreatDoorGlob
import Derived.Test.YtehakhplglhkdaaGreatDoorBackTop
import Derived.Test.YtehakhplglhkdaaGreatDoorOpenDat
import Derived.Carry
import Derived.Lay
import Derived.Deep.DeepHandedRow
import Derived.SevenTiedAt
namespace Go.Proofs.YtehakhplglhkdaaGreatDoor
open Go.ChangeShapes Go.WideShapes Go.ChangeAt Go.RowKit
open Go.ChangeMaps (open_string shut_string)
set_option linter.unusedVariables false

theorem numberBack_own : ownKnob Tryz.prog.godebug = none := by kernel_rfl
theorem numberBack_laidOut : laidOutB Tryz.prog = true := by kernel_rfl

theorem gPow : Tryz.prog.globalNamed "internal/strconv.uint64pow10" = some 4 := by kernel_rfl
theorem gPowType : (Tryz.prog.globals[4]?).map (·.type) = some 149 := by kernel_rfl
theorem cells149 : Tryz.prog.cellsOf 149 = 20 := by kernel_rfl
theorem cells22 : Tryz.prog.cellsOf 22 = 1 := by kernel_rfl
theorem pow_data : (Rows.laid_internal_strconv_uint64pow10 (H := Unit)) = Lib.tabData .u64 Lib.pow10Tab := by kernel_rfl
theorem tab_of {W : World} {x1 x2 x3 x4 x5 x6 x7 x8 : String × DataW Unit} {r : List (String × DataW Unit)} (h : laidMet Tryz.prog (x1 :: x2 :: x3 :: x4 :: x5 :: x6 :: x7 :: x8 :: ("internal/strconv.uint64pow10", Rows.laid_internal_strconv_uint64pow10) :: r) W) :
    Lib.TabIs Tryz.prog W "internal/strconv.uint64pow10" .u64 Lib.pow10Tab := by
  have h8 := laid_tail (laid_tail (laid_tail (laid_tail (laid_tail (laid_tail (laid_tail (laid_tail h)))))))
  rw [pow_data] at h8
  exact Lib.tabIs_of_head gPow gPowType Tryz.underlying149 Tryz.underlying22 cells22 cells149 h8
set_option maxRecDepth 100000 in
theorem numberBack_contract (H : Type) (enc : TypeId × Value → H) (W : World) (base : Nat) (args : Array Value) (ds gs : List (DataW H)) (before : List MemPlace)
    (hval : ∀ (j : Nat) t v, Tryz.f10.params[j]? = some t → args[j]? = some v → Value.okWide Tryz.prog W .any base t v)
    (hW : DataW.Whole enc Tryz.prog Tryz.f10.params.toList Rows.numberBackSpec.vars false W args.toList ds gs before)
    (hR0 : (DataW.weightsEach Tryz.prog (Tryz.f10.params.toList ++ (OpenSpec.ofChange Rows.numberBackSpec).bare.plain.varTypes Tryz.prog) (ds ++ gs)).all (· ≤ reachBytes) = true)
    (hL : laidMetH Tryz.prog Rows.numberBackRow.laid W) :
    Calls Tryz.prog 10 args W fun e W' => ∃ v, e = .returned v ∧ Rows.numberBackSpec.post enc Tryz.prog Tryz.f10 false true false false W args v W' := by
  have hG : Glob W := by
    rw [MakeChecks.laidMetH_plain _ _ _ (by kernel_rfl)] at hL
    exact glob_of hL
  have hT : Lib.TabIs Tryz.prog W "internal/strconv.uint64pow10" .u64 Lib.pow10Tab := by
    rw [MakeChecks.laidMetH_plain _ _ _ (by kernel_rfl)] at hL
    exact tab_of hL
  have hW' := hW
  obtain ⟨p, q, hA0, hV, rfl, hfz, hnd⟩ := hW
  have hA : DataW.TrodAll enc Tryz.prog W 0 (fun _ => true) true Tryz.f10.params.toList args.toList ds p := hA0
  obtain ⟨rfl, rfl⟩ := trodVars_none hV
  simp only [List.append_nil] at hW'
  rw [Tryz.params10] at hA hval
  obtain ⟨v0, vs0, d0, ds0, p0, q0, hargs, rfl, rfl, h0, r0⟩ := trodAll_cons hA
  obtain ⟨v1, vs1, d1, ds1, p1, q1, rfl, rfl, rfl, h1, r1⟩ := trodAll_cons r0
  obtain ⟨v2, vs2, d2, ds2, p2, q2, rfl, rfl, rfl, h2, r2⟩ := trodAll_cons r1
  obtain ⟨rfl, rfl, rfl⟩ := trodAll_nil r2
  obtain rfl : args = #[v0, v1, v2] := by cases args; simp_all
  obtain ⟨n, rfl, rfl, rfl, wn⟩ := open_int Tryz.underlying3 (hval 0 3 v0 rfl rfl) h0
  obtain ⟨t, rfl, rfl, rfl, wt⟩ := open_string Tryz.underlying9 (hval 1 9 v1 rfl rfl) h1
  obtain ⟨f, rfl, rfl, rfl, wf⟩ := open_int Tryz.underlying22 (hval 2 22 v2 rfl rfl) h2
  clear hA0
  refine (numberBack_any n t f W (int_wf wn) (u64_wf wf) hG hT).mono fun e W' ⟨he, bel⟩ => ?_
  subst he
  exact ⟨_, rfl, _, _, _, [], _, [], hW', trodAll_mk1 (shut_bool Tryz.underlying4 _), (trodAll_cons_mk (shut_int Tryz.underlying3 wn) (trodAll_cons_mk (shut_string Tryz.underlying9 wt) (trodAll_cons_mk (shut_int Tryz.underlying22 wf) trodAll_mk0))), rfl, bel.frame _, fun h => by cases h⟩

theorem numberBack_laid (os : Os) : laidMet Tryz.prog Rows.numberBackRow.laid ((World.laidAll Tryz.prog os Rows.numberBackRow.laid).forCall (fun _ _ => 0) ⟨#[], #[.int .i64 0, .string ⟨#[]⟩, .int .u64 0], []⟩).memory :=
  laidMet_laidAll _ (by kernel_rfl) (by kernel_rfl)
theorem numberBack_reads (os : Os) {H : Type} (enc : TypeId × Value → H) : ∃ places, DataW.whole enc Tryz.prog ((World.laidAll Tryz.prog os Rows.numberBackRow.laid).forCall (fun _ _ => 0) ⟨#[], #[.int .i64 0, .string ⟨#[]⟩, .int .u64 0], []⟩).memory Tryz.f10.params.toList Rows.numberBackSpec.vars false (#[.int .i64 0, .string ⟨#[]⟩, .int .u64 0] : Array Value).toList 8 = some ([.lit (.int .i64 0), .lit (.string []), .lit (.int .u64 0)], [], places) :=
  ⟨[], by kernel_rfl⟩
theorem numberBack_shaped (os : Os) : ((World.laidAll Tryz.prog os Rows.numberBackRow.laid).forCall (fun _ _ => 0) ⟨#[], #[.int .i64 0, .string ⟨#[]⟩, .int .u64 0], []⟩).Shaped Tryz.prog :=
  World.shaped_of_ZipB (by kernel_rfl) (by kernel_rfl)

set_option maxRecDepth 100000 in
theorem numberBack_lifted (os : Os) (started : os.Started) (H : Type) (enc : TypeId × Value → H) (F : Stop.Interp) :
    ReturnsInHanded {} Tryz.checked os 10 .any ((OpenSpec.ofChange Rows.numberBackSpec).preRow enc Tryz.prog Tryz.f10 Rows.numberBackRow.domain false Rows.numberBackRow.laid) (((OpenSpec.ofChange Rows.numberBackSpec).at F).post enc Tryz.prog Tryz.f10 false true false false) := by
  obtain ⟨places, hx⟩ := numberBack_reads os enc
  refine returnsInHanded_of_row (C := Tryz.checked) (s := OpenSpec.ofChange Rows.numberBackSpec) numberBack_own started (by kernel_rfl) Tryz.func10 ?_ ?_
  · refine ⟨World.laidAll Tryz.prog os Rows.numberBackRow.laid, fun _ _ => 0, ⟨#[], #[.int .i64 0, .string ⟨#[]⟩, .int .u64 0], []⟩, World.laidAll_os _ _ _, numberBack_shaped os, rfl, ?_, ?_, ?_⟩
    · exact (Input.okWide_of_okWideB (by kernel_rfl)).2
    · exact OpenSpec.preRow_of_cond 8 hx (by kernel_rfl) (fun k hk => by cases hk) (by kernel_rfl) (numberBack_laid os)
    · simp only [Assume.holds]
      exact ⟨by simp, by simp, fun _ => Modest.zero, by simp, by simp⟩
  intro W base args ds gs before hval hW _ _ hR hL _ _
  exact numberBack_contract H enc W base args ds gs before hval hW hR hL

theorem numberBack_said : Rows.NumberBackSaid :=
  OpenClaim.holds_of_cond 10 Tryz.f10 rfl rfl rfl rfl rfl rfl rfl ⟨rfl, rfl, rfl, rfl, rfl⟩ rfl rfl rfl rfl rfl (by kernel_rfl) Tryz.func10 (by kernel_rfl)
    (of_decide_eq_true (by kernel_rfl)) (by unfold Func.isWrapper; first | (rw [if_pos (by decide +kernel)]; kernel_rfl) | (rw [if_neg (by decide +kernel)]; exact ⟨rfl, rfl⟩))
    (fun os started H enc _ F => by rw [OpenClaim.pre_eq_preRow]; exact numberBack_lifted os started H enc F)

theorem numberBack_plain (f : FuncId) (fn : Func) (hf : Tryz.pinned.checked.prog.funcNamed "guise/guiselaw6.NumberBack" = some f) (hfn : Tryz.pinned.checked.prog.funcs[f]? = some fn) :
    true = Tryz.pinned.checked.prog.looks [] ∧ ∀ (j : Nat) t, fn.params[j]? = some t → Tryz.pinned.checked.prog.wantsStandIn t = false := by
  obtain rfl : f = 10 := Option.some.inj ((show Tryz.prog.funcNamed "guise/guiselaw6.NumberBack" = some 10 by kernel_rfl).symm.trans hf) |>.symm
  obtain rfl : fn = Tryz.f10 := (Option.some.inj (Tryz.func10.symm.trans hfn)).symm
  refine ⟨by kernel_rfl, fun j t ht => ?_⟩
  rw [Tryz.params10] at ht
  have hm := Array.mem_of_getElem? ht
  simp only [List.mem_toArray, List.mem_cons, List.not_mem_nil, or_false] at hm
  rcases hm with rfl | rfl | rfl
  · exact (show Tryz.prog.wantsStandIn 3 = false by kernel_rfl)
  · exact (show Tryz.prog.wantsStandIn 9 = false by kernel_rfl)
  · exact (show Tryz.prog.wantsStandIn 22 = false by kernel_rfl)

theorem numberBack_card : Rows.NumberBackCardSaid :=
  Claim7.holds_tied_plain_at .later [] _ _ _ _ numberBack_said (fun _ h => by cases h) (by kernel_rfl) (fun _ h => by cases h) numberBack_row_tie rfl ⟨rfl, rfl⟩ (by kernel_rfl) rfl numberBack_plain (by kernel_rfl)
end Go.Proofs.YtehakhplglhkdaaGreatDoor
