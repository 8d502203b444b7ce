/- The card of the law PeepOnce, the second form. Conditions: none but those of the given statement (what is read is of bulk at most 1048576). -/
import Derived.Test.YtmecmlpoallpcaaGreatDoorCards
import Derived.Test.YtmecmlpoallpcaaGreatDoorTie
import Derived.Test.YtmecmlpoallpcaaGreatDoorGlobOf
import Derived.Test.YtmecmlpoallpcaaGreatDoorOpenProg
import Derived.Test.YtmecmlpoallpcaaGreatDoorM38
import Derived.Carry
import Derived.Lay
import Derived.Deep.DeepHandedRow
import Derived.SevenTiedAt
set_option linter.all false
namespace Go.Proofs.YtmecmlpoallpcaaGreatDoor
open Go.ChangeShapes Go.WideShapes Go.ChangeAt Go.RowKit Go.Deep Go.Proofs.PeepPlain
open Go.ChangeMaps (open_string shut_string)
set_option linter.unusedVariables false

theorem peepOnce_own : ownKnob Tryz.prog.godebug = none := by kernel_rfl
theorem peepOnce_laidOut : laidOutB Tryz.prog = true := by kernel_rfl

set_option maxRecDepth 100000 in
theorem peepOnce_contract (H : Type) (enc : TypeId × Value → H) (W : World) (base : Nat) (args : Array Value) (ds gs : List (DataW H)) (before : List MemPlace)
    (hval : ∀ (j : Nat) t v, Tryz.f4.params[j]? = some t → args[j]? = some v → Value.okWide Tryz.prog W .any base t v)
    (hW : DataW.Whole enc Tryz.prog Tryz.f4.params.toList Rows.peepOnceSpec.vars false W args.toList ds gs before)
    (hR0 : (DataW.weightsEach Tryz.prog (Tryz.f4.params.toList ++ (Rows.OpenSpec.upto Rows.peepOnceSpec).bare.plain.varTypes Tryz.prog) (ds ++ gs)).all (· ≤ reachBytes) = true)
    (hK : Rows.uptoSmall H (ds ++ gs) = true)
    (hL : laidMetH Tryz.prog Rows.peepOnceUptoRow.laid W) (hSh : W.ShapedOpen Tryz.prog) :
    Calls Tryz.prog 4 args W fun e W' => ∃ v, e = .returned v ∧ Rows.peepOnceSpec.post enc Tryz.prog Tryz.f4 false true false false W args v W' := by
  obtain ⟨hG, hO⟩ : GlobP W ∧ OwnG W := by
    rw [MakeChecks.laidMetH_plain _ _ _ (by kernel_rfl)] at hL
    exact globP_of hSh hL
  have hW' := hW
  obtain ⟨p, q, hA0, hV, rfl, hfz, hnd⟩ := hW
  have hA : DataW.TrodAll enc Tryz.prog W 0 (fun _ => true) true Tryz.f4.params.toList args.toList ds p := hA0
  obtain ⟨rfl, rfl⟩ := trodVars_none hV
  simp only [List.append_nil] at hW' hK
  rw [Tryz.params4] at hA hval
  obtain ⟨v0, vs0, d0, ds0, p0, q0, hargs, rfl, rfl, h0, r0⟩ := trodAll_cons hA
  obtain ⟨rfl, rfl, rfl⟩ := trodAll_nil r0
  obtain rfl : args = #[v0] := by cases args; simp_all
  have lt0 : ∀ x ∈ p0, x.block < W.heap.size := by obtain ⟨m, hm⟩ := h0; exact DataW.trod_lt m _ _ _ hm
  have hbulk : Rows.uptoBulk d0 ≤ 2000000 := by
    have hk : Rows.uptoBulkAll [d0] ≤ 1048576 := by simpa [Rows.uptoSmall] using hK
    simp only [Rows.uptoBulkAll] at hk
    omega
  obtain ⟨fs, gs, A, GA, fc, gc, rfl, hF, hGl, hSm, hIn, hfc, hgc⟩ := open_prog h0 (hval 0 25 v0 rfl rfl) hbulk
  clear hA0
  refine (once_any fs gs A GA fc gc W hF hGl hG hO hSm).mono fun e W' ⟨he, bel⟩ => ?_
  subst he
  exact ⟨_, rfl, _, _, _, [], _, [], hW', trodAll_mk1 (shut_bool Tryz.underlying4 _), trodAll_cons_mk (Below.trod peepOnce_laidOut (by kernel_rfl) (of_decide_eq_true (by kernel_rfl)) h0 bel lt0) trodAll_mk0, rfl, bel.frame _, fun h => by cases h⟩

theorem peepOnce_laid (os : Os) : laidMet Tryz.prog Rows.peepOnceUptoRow.laid ((World.laidAll Tryz.prog os Rows.peepOnceUptoRow.laid).forCall (fun _ _ => 0) ⟨#[], #[.agg #[.slice none 0 0, .slice none 0 0]], []⟩).memory :=
  laidMet_laidAll _ (by kernel_rfl) (by kernel_rfl)
theorem peepOnce_reads (os : Os) {H : Type} (enc : TypeId × Value → H) : ∃ places, DataW.whole enc Tryz.prog ((World.laidAll Tryz.prog os Rows.peepOnceUptoRow.laid).forCall (fun _ _ => 0) ⟨#[], #[.agg #[.slice none 0 0, .slice none 0 0]], []⟩).memory Tryz.f4.params.toList Rows.peepOnceSpec.vars false (#[.agg #[.slice none 0 0, .slice none 0 0]] : Array Value).toList 8 = some ([.agg [.nil, .nil]], [], places) :=
  ⟨[], by kernel_rfl⟩
theorem peepOnce_shaped (os : Os) : ((World.laidAll Tryz.prog os Rows.peepOnceUptoRow.laid).forCall (fun _ _ => 0) ⟨#[], #[.agg #[.slice none 0 0, .slice none 0 0]], []⟩).Shaped Tryz.prog :=
  World.shaped_of_ZipB (by kernel_rfl) (by kernel_rfl)

set_option maxRecDepth 100000 in
theorem peepOnce_lifted (os : Os) (started : os.Started) (H : Type) (enc : TypeId × Value → H) (F : Stop.Interp) :
    ReturnsInHanded {} Tryz.checked os 4 .any ((Rows.OpenSpec.upto Rows.peepOnceSpec).preRow enc Tryz.prog Tryz.f4 Rows.peepOnceUptoRow.domain false Rows.peepOnceUptoRow.laid) (((Rows.OpenSpec.upto Rows.peepOnceSpec).at F).post enc Tryz.prog Tryz.f4 false true false false) := by
  obtain ⟨places, hx⟩ := peepOnce_reads os enc
  refine returnsInHanded_of_row (C := Tryz.checked) (s := Rows.OpenSpec.upto Rows.peepOnceSpec) peepOnce_own started (by kernel_rfl) Tryz.func4 ?_ ?_
  · refine ⟨World.laidAll Tryz.prog os Rows.peepOnceUptoRow.laid, fun _ _ => 0, ⟨#[], #[.agg #[.slice none 0 0, .slice none 0 0]], []⟩, World.laidAll_os _ _ _, peepOnce_shaped os, rfl, ?_, ?_, ?_⟩
    · exact (Input.okWide_of_okWideB (by kernel_rfl)).2
    · exact OpenSpec.preRow_of_cond 8 hx (by kernel_rfl) (fun k hk => by cases hk; kernel_rfl) (by kernel_rfl) (peepOnce_laid os)
    · simp only [Assume.holds]
      exact ⟨by simp, by simp, fun _ => Modest.zero, by simp, by simp⟩
  intro W base args ds gs before hval hW _ hcond hR hL hSh _
  exact peepOnce_contract H enc W base args ds gs before hval hW hR (hcond _ rfl) hL hSh

theorem peepOnce_said : Rows.PeepOnceUptoSaid :=
  OpenClaim.holds_of_cond 4 Tryz.f4 rfl rfl rfl rfl rfl rfl rfl ⟨rfl, rfl, rfl, rfl, rfl⟩ rfl rfl rfl rfl rfl (by kernel_rfl) Tryz.func4 (by kernel_rfl)
    (of_decide_eq_true (by kernel_rfl)) (by unfold Func.isWrapper; first | (rw [if_pos (by decide +kernel)]; kernel_rfl) | (rw [if_neg (by decide +kernel)]; exact ⟨rfl, rfl⟩))
    (fun os started H enc _ F => by rw [OpenClaim.pre_eq_preRow]; exact peepOnce_lifted os started H enc F)

theorem peepOnce_plain (f : FuncId) (fn : Func) (hf : Tryz.pinned.checked.prog.funcNamed "guise/guiselaw15.PeepOnce" = some f) (hfn : Tryz.pinned.checked.prog.funcs[f]? = some fn) :
    true = Tryz.pinned.checked.prog.looks [] ∧ ∀ (j : Nat) t, fn.params[j]? = some t → Tryz.pinned.checked.prog.wantsStandIn t = false := by
  obtain rfl : f = 4 := Option.some.inj ((show Tryz.prog.funcNamed "guise/guiselaw15.PeepOnce" = some 4 by kernel_rfl).symm.trans hf) |>.symm
  obtain rfl : fn = Tryz.f4 := (Option.some.inj (Tryz.func4.symm.trans hfn)).symm
  refine ⟨by kernel_rfl, fun j t ht => ?_⟩
  rw [Tryz.params4] at ht
  have hm := Array.mem_of_getElem? ht
  simp only [List.mem_toArray, List.mem_cons, List.not_mem_nil, or_false] at hm
  rcases hm with rfl
  · exact (show Tryz.prog.wantsStandIn 25 = false by kernel_rfl)

theorem peepOnce_card : Rows.PeepOnceUptoCardSaid :=
  Claim7.holds_tied_plain_at .later [] _ _ _ _ peepOnce_said (fun _ h => by cases h) (by kernel_rfl) (fun _ h => by cases h) peepOnceUpto_row_tie rfl ⟨rfl, rfl⟩ (by kernel_rfl) rfl peepOnce_plain (by kernel_rfl)
end Go.Proofs.YtmecmlpoallpcaaGreatDoor
