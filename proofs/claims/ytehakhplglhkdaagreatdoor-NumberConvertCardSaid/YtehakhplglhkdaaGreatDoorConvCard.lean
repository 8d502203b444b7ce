/- The card of the law NumberConvert, the first form: whatever the form's reach allows. Conditions: none but those of the given statement. -/
import Derived.Test.YtehakhplglhkdaaGreatDoorCards
import Derived.Test.YtehakhplglhkdaaGreatDoorTie
import Derived.Test.YtehakhplglhkdaaGreatDoorGlob
import Derived.Test.YtehakhplglhkdaaGreatDoorConvTop
import Derived.Test.YtehakhplglhkdaaGreatDoorOpenDat
import Derived.Test.YtehakhplglhkdaaGreatDoorReach
import Derived.Test.YtehakhplglhkdaaGreatDoorReachP
import Derived.Carry
import Derived.Lay
import Derived.Deep.DeepHandedRow
import Derived.SevenTiedAt
namespace Go.Proofs.YtehakhplglhkdaaGreatDoor
open Go.ChangeShapes Go.WideShapes Go.ChangeAt Go.RowKit Go.Deep
open Go.ChangeMaps (open_string shut_string)
set_option linter.unusedVariables false

theorem numberConvert_own : ownKnob Tryz.prog.godebug = none := by kernel_rfl
theorem numberConvert_laidOut : laidOutB Tryz.prog = true := by kernel_rfl

theorem conv_reach {H : Type} {kk : Int} {t : ByteArray} {d : DataW H} {ts : List TypeId} {gs : List (DataW H)} (h : (DataW.weightsEach Tryz.prog (Tryz.f5.params.toList ++ ts) ([.lit (.int .i64 kk), .lit (.string t.data.toList), d] ++ gs)).all (· ≤ reachBytes) = true) : t.size ≤ 140737488351232 ∧ (DataW.weights Tryz.prog 28 d).all (· ≤ reachBytes) = true := by
  rw [Tryz.params5] at h
  simp only [List.cons_append, List.nil_append, DataW.weightsEach, DataW.weights, List.all_append, List.all_cons, Bool.and_eq_true, Array.length_toList] at h
  obtain ⟨k1, k2, _⟩ := h
  have k1 := of_decide_eq_true k1
  have e1 : t.size = t.data.size := rfl
  rw [reachBytes] at k1
  exact ⟨by omega, k2⟩
set_option maxRecDepth 100000 in
theorem numberConvert_contract (H : Type) (enc : TypeId × Value → H) (W : World) (base : Nat) (args : Array Value) (ds gs : List (DataW H)) (before : List MemPlace)
    (hval : ∀ (j : Nat) t v, Tryz.f5.params[j]? = some t → args[j]? = some v → Value.okWide Tryz.prog W .any base t v)
    (hW : DataW.Whole enc Tryz.prog Tryz.f5.params.toList Rows.numberConvertSpec.vars false W args.toList ds gs before)
    (hR0 : (DataW.weightsEach Tryz.prog (Tryz.f5.params.toList ++ (OpenSpec.ofChange Rows.numberConvertSpec).bare.plain.varTypes Tryz.prog) (ds ++ gs)).all (· ≤ reachBytes) = true)
    (hL : laidMetH Tryz.prog Rows.numberConvertRow.laid W) :
    Calls Tryz.prog 5 args W fun e W' => ∃ v, e = .returned v ∧ Rows.numberConvertSpec.post enc Tryz.prog Tryz.f5 false true false false W args v W' := by
  have hG : Glob W := by
    rw [MakeChecks.laidMetH_plain _ _ _ (by kernel_rfl)] at hL
    exact glob_of hL
  have hW' := hW
  obtain ⟨p, q, hA0, hV, rfl, hfz, hnd⟩ := hW
  have hA : DataW.TrodAll enc Tryz.prog W 0 (fun _ => true) true Tryz.f5.params.toList args.toList ds p := hA0
  obtain ⟨rfl, rfl⟩ := trodVars_none hV
  simp only [List.append_nil] at hW'
  rw [Tryz.params5] at hA hval
  obtain ⟨v0, vs0, d0, ds0, p0, q0, hargs, rfl, rfl, h0, r0⟩ := trodAll_cons hA
  obtain ⟨v1, vs1, d1, ds1, p1, q1, rfl, rfl, rfl, h1, r1⟩ := trodAll_cons r0
  obtain ⟨v2, vs2, d2, ds2, p2, q2, rfl, rfl, rfl, h2, r2⟩ := trodAll_cons r1
  obtain ⟨rfl, rfl, rfl⟩ := trodAll_nil r2
  obtain rfl : args = #[v0, v1, v2] := by cases args; simp_all
  have lt2 : ∀ x ∈ p2, x.block < W.heap.size := by obtain ⟨m, hm⟩ := h2; exact DataW.trod_lt m _ _ _ hm
  obtain ⟨kk, rfl, rfl, rfl, wk⟩ := open_int Tryz.underlying3 (hval 0 3 v0 rfl rfl) h0
  obtain ⟨op, rfl, rfl, rfl, wop⟩ := open_string Tryz.underlying9 (hval 1 9 v1 rfl rfl) h1
  obtain ⟨D, l, rfl, hk, hn, hf, hb, hll, hia, hpc, hpm, hnil⟩ := open_dat h2 (hval 2 28 v2 rfl rfl)
  obtain ⟨ro, rt⟩ := conv_reach (t := op) hR0
  have hreach : op.size + D.t.size ≤ 281474976710600 ∧ D.pn ≤ 17592186043904 := by
    have a1 := dat_reach h2 rt
    have a2 := dat_path h2 rt
    omega
  clear hA0 hR0
  obtain ⟨dk, dt, dn, df, ds, dro, drf, drl, drc, dpa, dpn, dpc, dia, diN, dic⟩ := D
  simp only at hll hf hia hnil hreach
  subst hll
  refine (numberConvert_any kk op l dk dt ds dn df dro drf drl drc dpa dia dpc diN dic W hf hreach.1 hG hia hnil hreach.2).mono fun e W' ⟨he, bel⟩ => ?_
  subst he
  exact ⟨_, rfl, _, _, _, [], _, [], hW', trodAll_mk1 (shut_bool Tryz.underlying4 _), (trodAll_cons_mk (shut_int Tryz.underlying3 wk) (trodAll_cons_mk (shut_string Tryz.underlying9 wop) (trodAll_cons_mk (Below.trod numberConvert_laidOut (by kernel_rfl) (of_decide_eq_true (by kernel_rfl)) h2 bel lt2) trodAll_mk0))), rfl, bel.frame _, fun h => by cases h⟩

theorem numberConvert_laid (os : Os) : laidMet Tryz.prog Rows.numberConvertRow.laid ((World.laidAll Tryz.prog os Rows.numberConvertRow.laid).forCall (fun _ _ => 0) ⟨#[], #[.int .i64 0, .string ⟨#[]⟩, .agg #[.int .i64 0, .string ⟨#[]⟩, .int .i64 0, .int .u64 0, .string ⟨#[]⟩, .int .i64 0, .int .i64 0, .int .i64 0, .int .i64 0, .slice none 0 0, .slice none 0 0]], []⟩).memory :=
  laidMet_laidAll _ (by kernel_rfl) (by kernel_rfl)
theorem numberConvert_reads (os : Os) {H : Type} (enc : TypeId × Value → H) : ∃ places, DataW.whole enc Tryz.prog ((World.laidAll Tryz.prog os Rows.numberConvertRow.laid).forCall (fun _ _ => 0) ⟨#[], #[.int .i64 0, .string ⟨#[]⟩, .agg #[.int .i64 0, .string ⟨#[]⟩, .int .i64 0, .int .u64 0, .string ⟨#[]⟩, .int .i64 0, .int .i64 0, .int .i64 0, .int .i64 0, .slice none 0 0, .slice none 0 0]], []⟩).memory Tryz.f5.params.toList Rows.numberConvertSpec.vars false (#[.int .i64 0, .string ⟨#[]⟩, .agg #[.int .i64 0, .string ⟨#[]⟩, .int .i64 0, .int .u64 0, .string ⟨#[]⟩, .int .i64 0, .int .i64 0, .int .i64 0, .int .i64 0, .slice none 0 0, .slice none 0 0]] : Array Value).toList 8 = some ([.lit (.int .i64 0), .lit (.string []), .agg [.lit (.int .i64 0), .lit (.string []), .lit (.int .i64 0), .lit (.int .u64 0), .lit (.string []), .agg [.lit (.int .i64 0), .lit (.int .i64 0), .lit (.int .i64 0), .lit (.int .i64 0), .nil], .nil]], [], places) :=
  ⟨[], by kernel_rfl⟩
theorem numberConvert_shaped (os : Os) : ((World.laidAll Tryz.prog os Rows.numberConvertRow.laid).forCall (fun _ _ => 0) ⟨#[], #[.int .i64 0, .string ⟨#[]⟩, .agg #[.int .i64 0, .string ⟨#[]⟩, .int .i64 0, .int .u64 0, .string ⟨#[]⟩, .int .i64 0, .int .i64 0, .int .i64 0, .int .i64 0, .slice none 0 0, .slice none 0 0]], []⟩).Shaped Tryz.prog :=
  World.shaped_of_ZipB (by kernel_rfl) (by kernel_rfl)

set_option maxRecDepth 100000 in
theorem numberConvert_lifted (os : Os) (started : os.Started) (H : Type) (enc : TypeId × Value → H) (F : Stop.Interp) :
    ReturnsInHanded {} Tryz.checked os 5 .any ((OpenSpec.ofChange Rows.numberConvertSpec).preRow enc Tryz.prog Tryz.f5 Rows.numberConvertRow.domain false Rows.numberConvertRow.laid) (((OpenSpec.ofChange Rows.numberConvertSpec).at F).post enc Tryz.prog Tryz.f5 false true false false) := by
  obtain ⟨places, hx⟩ := numberConvert_reads os enc
  refine returnsInHanded_of_row (C := Tryz.checked) (s := OpenSpec.ofChange Rows.numberConvertSpec) numberConvert_own started (by kernel_rfl) Tryz.func5 ?_ ?_
  · refine ⟨World.laidAll Tryz.prog os Rows.numberConvertRow.laid, fun _ _ => 0, ⟨#[], #[.int .i64 0, .string ⟨#[]⟩, .agg #[.int .i64 0, .string ⟨#[]⟩, .int .i64 0, .int .u64 0, .string ⟨#[]⟩, .int .i64 0, .int .i64 0, .int .i64 0, .int .i64 0, .slice none 0 0, .slice none 0 0]], []⟩, World.laidAll_os _ _ _, numberConvert_shaped os, rfl, ?_, ?_, ?_⟩
    · exact (Input.okWide_of_okWideB (by kernel_rfl)).2
    · exact OpenSpec.preRow_of_cond 8 hx (by kernel_rfl) (fun k hk => by cases hk) (by kernel_rfl) (numberConvert_laid os)
    · simp only [Assume.holds]
      exact ⟨by simp, by simp, fun _ => Modest.zero, by simp, by simp⟩
  intro W base args ds gs before hval hW _ _ hR hL _ _
  exact numberConvert_contract H enc W base args ds gs before hval hW hR hL

theorem numberConvert_said : Rows.NumberConvertSaid :=
  OpenClaim.holds_of_cond 5 Tryz.f5 rfl rfl rfl rfl rfl rfl rfl ⟨rfl, rfl, rfl, rfl, rfl⟩ rfl rfl rfl rfl rfl (by kernel_rfl) Tryz.func5 (by kernel_rfl)
    (of_decide_eq_true (by kernel_rfl)) (by unfold Func.isWrapper; first | (rw [if_pos (by decide +kernel)]; kernel_rfl) | (rw [if_neg (by decide +kernel)]; exact ⟨rfl, rfl⟩))
    (fun os started H enc _ F => by rw [OpenClaim.pre_eq_preRow]; exact numberConvert_lifted os started H enc F)

theorem numberConvert_plain (f : FuncId) (fn : Func) (hf : Tryz.pinned.checked.prog.funcNamed "guise/guiselaw6.NumberConvert" = some f) (hfn : Tryz.pinned.checked.prog.funcs[f]? = some fn) :
    true = Tryz.pinned.checked.prog.looks [] ∧ ∀ (j : Nat) t, fn.params[j]? = some t → Tryz.pinned.checked.prog.wantsStandIn t = false := by
  obtain rfl : f = 5 := Option.some.inj ((show Tryz.prog.funcNamed "guise/guiselaw6.NumberConvert" = some 5 by kernel_rfl).symm.trans hf) |>.symm
  obtain rfl : fn = Tryz.f5 := (Option.some.inj (Tryz.func5.symm.trans hfn)).symm
  refine ⟨by kernel_rfl, fun j t ht => ?_⟩
  rw [Tryz.params5] at ht
  have hm := Array.mem_of_getElem? ht
  simp only [List.mem_toArray, List.mem_cons, List.not_mem_nil, or_false] at hm
  rcases hm with rfl | rfl | rfl
  · exact (show Tryz.prog.wantsStandIn 3 = false by kernel_rfl)
  · exact (show Tryz.prog.wantsStandIn 9 = false by kernel_rfl)
  · exact (show Tryz.prog.wantsStandIn 28 = false by kernel_rfl)

theorem numberConvert_card : Rows.NumberConvertCardSaid :=
  Claim7.holds_tied_plain_at .later [] _ _ _ _ numberConvert_said (fun _ h => by cases h) (by kernel_rfl) (fun _ h => by cases h) numberConvert_row_tie rfl ⟨rfl, rfl⟩ (by kernel_rfl) rfl numberConvert_plain (by kernel_rfl)
end Go.Proofs.YtehakhplglhkdaaGreatDoor
