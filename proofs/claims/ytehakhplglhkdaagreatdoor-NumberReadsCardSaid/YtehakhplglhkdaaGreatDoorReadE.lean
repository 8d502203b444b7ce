/- strconv.ParseFloat at digits, a point, digits, fifteen at most: the exact quotient. Conditions: what three of the package's variables hold. -/
import Derived.Test.YtehakhplglhkdaaGreatDoorReadD
namespace Go.Proofs.YtehakhplglhkdaaGreatDoor
set_option linter.unusedVariables false
open Go.RowKit

@[go_sem] theorem frombits136 (x : Int) (w : World) : (callFunc 136 #[.int .u64 x]).run Tryz.prog w = .ok (.value (.float .f64 x.toNat)) w := by kernel_rfl
theorem shr52 (n : Nat) (h : n < 1000000000000000) : (n : Int) / 4503599627370496 = 0 := by omega
set_option maxRecDepth 200000 in
set_option maxHeartbeats 4000000 in
theorem exact_any (n e : Nat) (w : World) (hG : Glob w) (hn : n < 1000000000000000) (he : e < 15) (h0 : 0 < e) :
    Calls Tryz.prog 137 #[.int .u64 n, .int .i64 (if n = 0 then 0 else -(e : Int)), .bool false] w fun x w' => x = .returned (.tuple #[.float .f64 (qbits n e), .bool true]) ∧ w' = w := by
  obtain ⟨h6, h7, ⟨b, o, h10, _, hps⟩, _⟩ := hG
  have hp := hps e _ (pow_at he)
  clear hps
  have s52 := shr52 n hn
  obtain ⟨hq, _⟩ := q_some hn he
  by_cases hz : n = 0
  · subst hz
    rw [q_zero he, if_pos rfl]
    have hf := int_zero
    clear hq hp
    go_enter Tryz.func137, Tryz.ntmps137
    go_wp2
    go_returns
    exact ⟨rfl, rfl⟩
  · rw [if_neg hz]
    generalize floatOfInt .f64 ((10 ^ e : Nat) : Int) = f at *
    generalize qbits n e = Q at *
    have HQ : ∀ w, (binOp .quo 71 (.float .f64 (floatOfInt .f64 (n : Int))) (.float .f64 f)).run Tryz.prog w = .ok (.float .f64 Q) w := fun w => run_float_arith w .quo 71 .f64 _ _ _ hq
    have e1 : ((e : Int) == 0) = false := beq_eq_false_iff_ne.2 (by omega)
    have e2 : (-(e : Int) == 0) = false := beq_eq_false_iff_ne.2 (by omega)
    have e3 : decide ((0 : Int) < -(e : Int)) = false := decide_eq_false (by omega)
    have e4 : decide (-(e : Int) < 0) = true := decide_eq_true (by omega)
    have e5 : decide ((-22 : Int) ≤ -(e : Int)) = true := decide_eq_true (by omega)
    have e6 : wrap64 (e : Int) = (e : Int) := wrap_id (by unfold I64; omega)
    have e7 : (0 : Int) ≤ (e : Int) ∧ (e : Int) < 23 := by omega
    have e8 : ¬ (e : Int) = 0 := by omega
    have e9 : (0 : Int) < (e : Int) := by omega
    clear hq hz hn he h0
    go_enter Tryz.func137, Tryz.ntmps137
    go_wp2
    go_returns
    exact ⟨rfl, rfl⟩
set_option maxRecDepth 200000 in
set_option maxHeartbeats 4000000 in
theorem parse_any (s : ByteArray) (n e : Nat) (w : World) (hG : Glob w) (hn : n < 1000000000000000) (he : e < 15) (h0 : 0 < e) (hpos : 0 < s.size) (hd : isD s[0])
    (hR : ∀ w, Calls Tryz.prog 127 #[.string s] w fun x w' => x = .returned (.tuple #[.int .u64 n, .int .i64 (if n = 0 then 0 else -(e : Int)), .bool false, .bool false, .bool false, .int .i64 s.size, .bool true]) ∧ w' = w) :
    Calls Tryz.prog 57 #[.string s, .int .i64 64] w fun x w' => x = .returned (.tuple #[.float .f64 (qbits n e), .nilIface]) ∧ w' = w := by
  have HX := Lib.hid fun w (h : Glob w) => exact_any n e w h hn he h0
  have HS := Lib.hid fun w => special_any s w hpos hd
  have HR := Lib.hid hR
  have HG := Lib.hid hG
  have h6 := hG.opt
  by_cases hz : n = 0
  · subst hz
    have hq := q_zero he
    rw [hq]
    rw [if_pos rfl] at HR
    have b0 : bits BinOp.or .u64 0 0 = 0 := by decide
    clear hR hG hd hn he h0 hq HX
    go_enter Tryz.func57, Tryz.ntmps57
    go_wp2_with (first
      | (go_at_call 126; refine (HS.out _).mono ?_; rintro en w2 ⟨rfl, rfl⟩)
      | (go_at_call 127; refine (HR.out _).mono ?_; rintro en w2 ⟨rfl, rfl⟩)
      | go_in)
    go_returns
    exact ⟨rfl, rfl⟩
  · rw [if_neg hz] at HX HR
    have b0 : ((n : Int) == 0) = false := beq_eq_false_iff_ne.2 (by omega)
    have b1 : decide ((310 : Int) < -(e : Int)) = false := decide_eq_false (by omega)
    have b2 : decide (-(e : Int) < -345) = false := decide_eq_false (by omega)
    generalize (-(e : Int)) = x at *
    generalize qbits n e = Q at *
    clear hR hG hd hn he h0 hz
    go_enter Tryz.func57, Tryz.ntmps57
    go_wp2_with (first
      | (go_at_call 126; refine (HS.out _).mono ?_; rintro en w2 ⟨rfl, rfl⟩)
      | (go_at_call 127; refine (HR.out _).mono ?_; rintro en w2 ⟨rfl, rfl⟩)
      | (go_at_call 137; refine (HX.out _ HG.out).mono ?_; rintro en w2 ⟨rfl, rfl⟩)
      | go_in)
    go_returns
    exact ⟨rfl, rfl⟩
end Go.Proofs.YtehakhplglhkdaaGreatDoor
