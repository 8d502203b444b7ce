/- strconv.ParseFloat at the text 1.5. Conditions: what three of the package's variables hold. -/
import Derived.Test.YtehakhplglhkdaaGreatDoorBase
import Derived.Deep.QuietTactic
import Derived.BigQuiet
import Derived.WalkMore
import Derived.Laws.FloatArith
namespace Go.Proofs.YtehakhplglhkdaaGreatDoor
set_option linter.unusedVariables false
open Go.RowKit
/-- The powers of ten as floats, by their bits. -/
def pows : List Nat := [4607182418800017408, 4621819117588971520, 4636737291354636288, 4652007308841189376, 4666723172467343360, 4681608360884174848, 4696837146684686336, 4711630319722168320, 4726483295884279808, 4741671816366391296, 4756540486875873280, 4771362005757984768, 4786511204640096256, 4801453603149578240, 4816244402031689728, 4831355200913801216, 4846369599423283200, 4861130398305394688, 4876203697187506176, 4891288408196988160, 4906019910204099648, 4921056587992461136, 4936209963552724370]
/-- What strconv.ParseFloat reads of the package's variables. -/
structure Glob (w : World) : Prop where
  opt : w.cell? ⟨6, 0, none⟩ = some (.bool true)
  info : w.cell? ⟨7, 0, none⟩ = some (.int .u64 52)
  pow : ∃ b o, w.cell? ⟨10, 0, none⟩ = some (.slice (some ⟨b, o, none⟩) 23 23) ∧ b < w.heap.size ∧ ∀ (k f : Nat), pows[k]? = some f → w.cell? ⟨b, o + k, none⟩ = some (.float .f64 f)
  size : 11 ≤ w.heap.size
theorem Glob.below {w w' : World} (h : Glob w) (hb : Below w.heap.size w w') : Glob w' := by
  have hs := h.size
  obtain ⟨b, o, h1, h2, h3⟩ := h.pow
  exact ⟨(hb.cell (p := ⟨6, 0, none⟩) (show 6 < _ by omega)).trans h.opt, (hb.cell (p := ⟨7, 0, none⟩) (show 7 < _ by omega)).trans h.info,
    ⟨b, o, (hb.cell (p := ⟨10, 0, none⟩) (show 10 < _ by omega)).trans h1, Nat.lt_of_lt_of_le h2 hb.size, fun k f hk => (hb.cell (p := ⟨b, o + k, none⟩) h2).trans (h3 k f hk)⟩, Nat.le_trans hs hb.size⟩

@[go_sem] theorem div15 (w : World) : (binOp .quo 71 (.float .f64 (floatOfInt .f64 15)) (.float .f64 4621819117588971520)).run Tryz.prog w = .ok (.float .f64 4609434218613702656) w :=
  run_float_arith w .quo 71 .f64 _ _ _ (by kernel_rfl)
theorem results_tmp7 {fn : Func} {a b c d e f g : Tmp} (h : fn.results = #[.tmp a, .tmp b, .tmp c, .tmp d, .tmp e, .tmp f, .tmp g]) (tmps : Array Value) (P : Program) (w : World) :
    (results fn tmps).run P w = .ok (.tuple #[tmps.getD a undef, tmps.getD b undef, tmps.getD c undef, tmps.getD d undef, tmps.getD e undef, tmps.getD f undef, tmps.getD g undef]) w := by
  simp [results, h]
theorem special15 (w : World) : Calls Tryz.prog 126 #[.string ⟨#[49, 46, 53]⟩] w fun e w' => e = .returned (.tuple #[.float .f64 0, .int .i64 0, .bool false]) ∧ w' = w := by
  go_enter Tryz.func126, Tryz.ntmps126
  go_wp2
  go_ret3
  exact ⟨rfl, rfl⟩
set_option maxRecDepth 200000 in
set_option maxHeartbeats 1000000 in
theorem readFloat15 (w : World) : Calls Tryz.prog 127 #[.string ⟨#[49, 46, 53]⟩] w fun e w' => e = .returned (.tuple #[.int .u64 15, .int .i64 (-1), .bool false, .bool false, .bool false, .int .i64 3, .bool true]) ∧ w' = w := by
  go_enter Tryz.func127, Tryz.ntmps127
  go_wp2
  go_step3
  go_wp2
  go_step3
  go_wp2
  go_rounds 4
  rw [Exit.noGoto_ret]
  refine bodyPost_ret (results_tmp7 rfl _ _ _) rfl ⟨?_, rfl⟩
  rfl
set_option maxRecDepth 200000 in
set_option maxHeartbeats 2000000 in
theorem parse15 (w : World) (hG : Glob w) :
    Calls Tryz.prog 57 #[.string ⟨#[49, 46, 53]⟩, .int .i64 64] w fun e w' => e = .returned (.tuple #[.float .f64 4609434218613702656, .nilIface]) ∧ w' = w := by
  obtain ⟨h6, h7, ⟨b, o, h10, _, hps⟩, _⟩ := hG
  have hp := hps 1 _ rfl
  clear hps
  go_enter Tryz.func57, Tryz.ntmps57
  go_wp2_with (first
    | (go_at_call 126; refine (special15 _).mono ?_; rintro en w2 ⟨rfl, rfl⟩)
    | (go_at_call 127; refine (readFloat15 _).mono ?_; rintro en w2 ⟨rfl, rfl⟩)
    | go_in)
  go_returns
  exact ⟨rfl, rfl⟩
end Go.Proofs.YtehakhplglhkdaaGreatDoor
