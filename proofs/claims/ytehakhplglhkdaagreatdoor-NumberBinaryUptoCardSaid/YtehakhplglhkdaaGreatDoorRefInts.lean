/- guiseref6.ints: every operation. Conditions: as said. -/
import Derived.Test.YtehakhplglhkdaaGreatDoorRefShift
import Derived.Test.YtehakhplglhkdaaGreatDoorRefDigitsN
import Derived.Test.YtehakhplglhkdaaGreatDoorUnaryR
import Derived.Test.YtehakhplglhkdaaGreatDoorTextBin
namespace Go.Proofs.YtehakhplglhkdaaGreatDoor
set_option linter.unusedVariables false
open Go.RowKit

def sDivide0 : ByteArray := ⟨#[100, 105, 118, 105, 100, 101]⟩
set_option maxRecDepth 200000 in
set_option maxHeartbeats 2000000 in
theorem r_add (n n2 : Int) (w : World) : Calls Tryz.prog 48 #[.string ⟨#[43]⟩, .int .i64 n, .int .i64 n2] w fun e w' => e = .returned (.tuple #[.int .i64 (wrap64 (n + n2)), .agg #[.string ⟨#[]⟩, .string ⟨#[]⟩], .bool true]) ∧ Below w.heap.size w w' := by
  go_enter Tryz.func48, Tryz.ntmps48
  go_wp2
  go_returns
  exact ⟨rfl, by go_grown⟩
set_option maxRecDepth 200000 in
set_option maxHeartbeats 2000000 in
theorem r_sub (n n2 : Int) (w : World) : Calls Tryz.prog 48 #[.string ⟨#[45]⟩, .int .i64 n, .int .i64 n2] w fun e w' => e = .returned (.tuple #[.int .i64 (wrap64 (n - n2)), .agg #[.string ⟨#[]⟩, .string ⟨#[]⟩], .bool true]) ∧ Below w.heap.size w w' := by
  go_enter Tryz.func48, Tryz.ntmps48
  go_wp2
  go_returns
  exact ⟨rfl, by go_grown⟩
set_option maxRecDepth 200000 in
set_option maxHeartbeats 2000000 in
theorem r_mul (n n2 : Int) (w : World) : Calls Tryz.prog 48 #[.string ⟨#[42]⟩, .int .i64 n, .int .i64 n2] w fun e w' => e = .returned (.tuple #[.int .i64 (wrap64 (n * n2)), .agg #[.string ⟨#[]⟩, .string ⟨#[]⟩], .bool true]) ∧ Below w.heap.size w w' := by
  go_enter Tryz.func48, Tryz.ntmps48
  go_wp2
  go_returns
  exact ⟨rfl, by go_grown⟩
set_option maxRecDepth 200000 in
set_option maxHeartbeats 2000000 in
theorem r_and (n n2 : Int) (w : World) : Calls Tryz.prog 48 #[.string ⟨#[38]⟩, .int .i64 n, .int .i64 n2] w fun e w' => e = .returned (.tuple #[.int .i64 (bits BinOp.and .i64 n n2), .agg #[.string ⟨#[]⟩, .string ⟨#[]⟩], .bool true]) ∧ Below w.heap.size w w' := by
  go_enter Tryz.func48, Tryz.ntmps48
  go_wp2
  go_returns
  exact ⟨rfl, by go_grown⟩
set_option maxRecDepth 200000 in
set_option maxHeartbeats 2000000 in
theorem r_or (n n2 : Int) (w : World) : Calls Tryz.prog 48 #[.string ⟨#[124]⟩, .int .i64 n, .int .i64 n2] w fun e w' => e = .returned (.tuple #[.int .i64 (bits BinOp.or .i64 n n2), .agg #[.string ⟨#[]⟩, .string ⟨#[]⟩], .bool true]) ∧ Below w.heap.size w w' := by
  go_enter Tryz.func48, Tryz.ntmps48
  go_wp2
  go_returns
  exact ⟨rfl, by go_grown⟩
set_option maxRecDepth 200000 in
set_option maxHeartbeats 2000000 in
theorem r_xor (n n2 : Int) (w : World) : Calls Tryz.prog 48 #[.string ⟨#[94]⟩, .int .i64 n, .int .i64 n2] w fun e w' => e = .returned (.tuple #[.int .i64 (bits BinOp.xor .i64 n n2), .agg #[.string ⟨#[]⟩, .string ⟨#[]⟩], .bool true]) ∧ Below w.heap.size w w' := by
  go_enter Tryz.func48, Tryz.ntmps48
  go_wp2
  go_returns
  exact ⟨rfl, by go_grown⟩
set_option maxRecDepth 200000 in
set_option maxHeartbeats 2000000 in
theorem r_div (n n2 : Int) (hb : n2 ≠ 0) (hb1 : n2 ≠ -1) (w : World) : Calls Tryz.prog 48 #[.string ⟨#[47]⟩, .int .i64 n, .int .i64 n2] w fun e w' => e = .returned (.tuple #[.int .i64 (wrap64 (n.tdiv n2)), .agg #[.string ⟨#[]⟩, .string ⟨#[]⟩], .bool true]) ∧ Below w.heap.size w w' := by
  have h0 : (n2 == 0) = false := by simp [hb]
  have h1 : (n2 == -1) = false := by simp [hb1]
  go_enter Tryz.func48, Tryz.ntmps48
  go_wp2
  go_returns
  exact ⟨rfl, by go_grown⟩
set_option maxRecDepth 200000 in
set_option maxHeartbeats 2000000 in
theorem r_rem (n n2 : Int) (hb : n2 ≠ 0) (hb1 : n2 ≠ -1) (w : World) : Calls Tryz.prog 48 #[.string ⟨#[37]⟩, .int .i64 n, .int .i64 n2] w fun e w' => e = .returned (.tuple #[.int .i64 (wrap64 (n - wrap64 (n2 * wrap64 (n.tdiv n2)))), .agg #[.string ⟨#[]⟩, .string ⟨#[]⟩], .bool true]) ∧ Below w.heap.size w w' := by
  have h0 : (n2 == 0) = false := by simp [hb]
  have h1 : (n2 == -1) = false := by simp [hb1]
  go_enter Tryz.func48, Tryz.ntmps48
  go_wp2
  go_returns
  exact ⟨rfl, by go_grown⟩
set_option maxRecDepth 200000 in
set_option maxHeartbeats 2000000 in
theorem r_divm (n n2 : Int) (w : World) : Calls Tryz.prog 48 #[.string ⟨#[47]⟩, .int .i64 n, .int .i64 (-1)] w fun e w' => e = .returned (.tuple #[.int .i64 (wrap64 (-n)), .agg #[.string ⟨#[]⟩, .string ⟨#[]⟩], .bool true]) ∧ Below w.heap.size w w' := by
  go_enter Tryz.func48, Tryz.ntmps48
  go_wp2
  go_returns
  exact ⟨rfl, by go_grown⟩
set_option maxRecDepth 200000 in
set_option maxHeartbeats 2000000 in
theorem r_remm (n n2 : Int) (w : World) : Calls Tryz.prog 48 #[.string ⟨#[37]⟩, .int .i64 n, .int .i64 (-1)] w fun e w' => e = .returned (.tuple #[.int .i64 0, .agg #[.string ⟨#[]⟩, .string ⟨#[]⟩], .bool true]) ∧ Below w.heap.size w w' := by
  go_enter Tryz.func48, Tryz.ntmps48
  go_wp2
  go_returns
  exact ⟨rfl, by go_grown⟩
set_option maxRecDepth 200000 in
set_option maxHeartbeats 2000000 in
theorem r_div0 (n n2 : Int) (w : World) : Calls Tryz.prog 48 #[.string ⟨#[47]⟩, .int .i64 n, .int .i64 0] w fun e w' => e = .returned (.tuple #[.int .i64 0, .agg #[.string ⟨#[100, 105, 118, 105, 100, 101]⟩, .string ⟨#[]⟩], .bool true]) ∧ Below w.heap.size w w' := by
  go_enter Tryz.func48, Tryz.ntmps48
  go_wp2
  go_returns
  exact ⟨rfl, by go_grown⟩
set_option maxRecDepth 200000 in
set_option maxHeartbeats 2000000 in
theorem r_rem0 (n n2 : Int) (w : World) : Calls Tryz.prog 48 #[.string ⟨#[37]⟩, .int .i64 n, .int .i64 0] w fun e w' => e = .returned (.tuple #[.int .i64 0, .agg #[.string ⟨#[100, 105, 118, 105, 100, 101]⟩, .string ⟨#[]⟩], .bool true]) ∧ Below w.heap.size w w' := by
  go_enter Tryz.func48, Tryz.ntmps48
  go_wp2
  go_returns
  exact ⟨rfl, by go_grown⟩
set_option maxRecDepth 200000 in
set_option maxHeartbeats 2000000 in
theorem r_shl (n n2 : Int) (hn : I64 n) (hb : 0 ≤ n2) (w : World) : Calls Tryz.prog 48 #[.string ⟨#[60, 60]⟩, .int .i64 n, .int .i64 n2] w fun e w' => e = .returned (.tuple #[.int .i64 (wrap64 (n * 2 ^ (min n2 64).toNat)), .agg #[.string ⟨#[]⟩, .string ⟨#[]⟩], .bool true]) ∧ Below w.heap.size w w' := by
  have HS := Lib.hid fun w => left_any n n2 w hn hb
  have c1 : decide (n2 < 0) = false := decide_eq_false (by omega)
  go_enter Tryz.func48, Tryz.ntmps48
  go_wp2_with (first | (go_at_call 72; refine (HS.out _).mono ?_; rintro en w2 ⟨rfl, rfl⟩; clear HS))
  go_returns
  exact ⟨rfl, by go_grown⟩
set_option maxRecDepth 200000 in
set_option maxHeartbeats 2000000 in
theorem r_shr (n n2 : Int) (hn : I64 n) (hb : 0 ≤ n2) (w : World) : Calls Tryz.prog 48 #[.string ⟨#[62, 62]⟩, .int .i64 n, .int .i64 n2] w fun e w' => e = .returned (.tuple #[.int .i64 (n / 2 ^ (min n2 63).toNat), .agg #[.string ⟨#[]⟩, .string ⟨#[]⟩], .bool true]) ∧ Below w.heap.size w w' := by
  have HS := Lib.hid fun w => right_any n n2 w hn hb
  have c1 : decide (n2 < 0) = false := decide_eq_false (by omega)
  go_enter Tryz.func48, Tryz.ntmps48
  go_wp2_with (first | (go_at_call 73; refine (HS.out _).mono ?_; rintro en w2 ⟨rfl, rfl⟩; clear HS))
  go_returns
  exact ⟨rfl, by go_grown⟩
theorem ret_tft {fn : Func} {u p v : Tmp} (h : fn.results = #[.tmp u, .cell p 35, .tmp v]) (tmps : Array Value) (w : World) (g : Nat) (cs : List Value) (hp : tmps.getD p undef = .pointer (some ⟨g, 0, none⟩)) (hr : Row w g 35 cs) (hl : cs.length = 2) :
    (results fn tmps).run Tryz.prog w = .ok (.tuple #[tmps.getD u undef, .agg cs.toArray, tmps.getD v undef]) w := by
  have hp' : tmps[p]?.getD undef = .pointer (some ⟨g, 0, none⟩) := by simpa using hp
  simp [results, h, hp', asAddr, Result.andThen, load35 w g cs hr hl]
set_option maxRecDepth 200000 in
set_option maxHeartbeats 2000000 in
theorem r_shln (n n2 : Int) (h2 : I64 n2) (hb : n2 < 0) (w : World) : Calls Tryz.prog 48 #[.string ⟨#[60, 60]⟩, .int .i64 n, .int .i64 n2] w fun e w' => e = .returned (.tuple #[.int .i64 0, .agg #[.string sCount, .string ⟨(Lib.itoa n2).toArray⟩], .bool true]) ∧ Below w.heap.size w w' := by
  have HD := Lib.hid fun w => refdigits_neg w n2.natAbs (by omega) (by unfold I64 at h2; omega) n2 (by omega)
  have c1 : decide (n2 < 0) = true := decide_eq_true hb
  generalize (⟨(Lib.itoa n2).toArray⟩ : ByteArray) = m at *
  clear h2
  go_enter Tryz.func48, Tryz.ntmps48
  go_wp2_with (first
    | (go_at_call 49; refine (HD.out _).mono ?_; rintro en w2 ⟨rfl, hb2⟩
       have R2 : Hid (Row w2 w.heap.size 35 [.string ⟨#[]⟩, .string ⟨#[]⟩]) := (Row.made w 35 [.string ⟨#[]⟩, .string ⟨#[]⟩]).below hb2 (by simp)
       have B2 : Hid (Below w.heap.size w w2) := below_more (below1 w _) hb2 (by simp)
       clear hb2 HD)
    | (go_at_call 41; refine (reffault_any _ _ _).mono ?_; rintro en w3 ⟨rfl, hb3⟩
       have R3 : Hid (Row w3 w.heap.size 35 [.string ⟨#[]⟩, .string ⟨#[]⟩]) := R2.out.below hb3 R2.out.lt
       have B3 : Hid (Below w.heap.size w w3) := below_more B2.out hb3 B2.out.size
       clear hb3 R2 B2)
    | (refine put_flt (.tmp 7) (.tmp 85) w.heap.size _ _ _ rfl rfl rfl rfl R3.out rfl rfl rfl ?_; intro w6 hr6 hb6 hf6
       have B6 : Hid (Below w.heap.size w w6) := B3.out.trans (hb6 _ (by omega))
       have R6 := Lib.hid hr6
       clear B3 R3 hb6 hr6 hf6))
  exact bodyPost_ret (ret_tft rfl _ _ w.heap.size _ rfl R6.out rfl) rfl ⟨rfl, B6.out⟩
set_option maxRecDepth 200000 in
set_option maxHeartbeats 2000000 in
theorem r_shrn (n n2 : Int) (h2 : I64 n2) (hb : n2 < 0) (w : World) : Calls Tryz.prog 48 #[.string ⟨#[62, 62]⟩, .int .i64 n, .int .i64 n2] w fun e w' => e = .returned (.tuple #[.int .i64 0, .agg #[.string sCount, .string ⟨(Lib.itoa n2).toArray⟩], .bool true]) ∧ Below w.heap.size w w' := by
  have HD := Lib.hid fun w => refdigits_neg w n2.natAbs (by omega) (by unfold I64 at h2; omega) n2 (by omega)
  have c1 : decide (n2 < 0) = true := decide_eq_true hb
  generalize (⟨(Lib.itoa n2).toArray⟩ : ByteArray) = m at *
  clear h2
  go_enter Tryz.func48, Tryz.ntmps48
  go_wp2_with (first
    | (go_at_call 49; refine (HD.out _).mono ?_; rintro en w2 ⟨rfl, hb2⟩
       have R2 : Hid (Row w2 w.heap.size 35 [.string ⟨#[]⟩, .string ⟨#[]⟩]) := (Row.made w 35 [.string ⟨#[]⟩, .string ⟨#[]⟩]).below hb2 (by simp)
       have B2 : Hid (Below w.heap.size w w2) := below_more (below1 w _) hb2 (by simp)
       clear hb2 HD)
    | (go_at_call 41; refine (reffault_any _ _ _).mono ?_; rintro en w3 ⟨rfl, hb3⟩
       have R3 : Hid (Row w3 w.heap.size 35 [.string ⟨#[]⟩, .string ⟨#[]⟩]) := R2.out.below hb3 R2.out.lt
       have B3 : Hid (Below w.heap.size w w3) := below_more B2.out hb3 B2.out.size
       clear hb3 R2 B2)
    | (refine put_flt (.tmp 7) (.tmp 85) w.heap.size _ _ _ rfl rfl rfl rfl R3.out rfl rfl rfl ?_; intro w6 hr6 hb6 hf6
       have B6 : Hid (Below w.heap.size w w6) := B3.out.trans (hb6 _ (by omega))
       have R6 := Lib.hid hr6
       clear B3 R3 hb6 hr6 hf6))
  exact bodyPost_ret (ret_tft rfl _ _ w.heap.size _ rfl R6.out rfl) rfl ⟨rfl, B6.out⟩
set_option maxRecDepth 200000 in
set_option maxHeartbeats 2000000 in
theorem r_no (op : ByteArray) (n n2 : Int) (h0 : (op.toList == [43]) = false) (h1 : (op.toList == [45]) = false) (h2 : (op.toList == [42]) = false) (h3 : (op.toList == [38]) = false) (h4 : (op.toList == [124]) = false) (h5 : (op.toList == [94]) = false) (h6 : (op.toList == [47]) = false) (h7 : (op.toList == [37]) = false) (h8 : (op.toList == [60, 60]) = false) (h9 : (op.toList == [62, 62]) = false) (w : World) : Calls Tryz.prog 48 #[.string op, .int .i64 n, .int .i64 n2] w fun e w' => e = .returned (.tuple #[.int .i64 0, .agg #[.string ⟨#[]⟩, .string ⟨#[]⟩], .bool false]) ∧ Below w.heap.size w w' := by
  go_enter Tryz.func48, Tryz.ntmps48
  go_wp2
  go_returns
  exact ⟨rfl, by go_grown⟩
end Go.Proofs.YtehakhplglhkdaaGreatDoor
