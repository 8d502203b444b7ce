/- number.binary of two floats at any data; number.floats' + - * / and what is no operation. Conditions: as said. -/
import Derived.Test.YtehakhplglhkdaaGreatDoorBin17
import Derived.Test.YtehakhplglhkdaaGreatDoorUnaryA
namespace Go.Proofs.YtehakhplglhkdaaGreatDoor
set_option linter.unusedVariables false
open Go.RowKit

set_option maxRecDepth 200000 in
set_option maxHeartbeats 4000000 in
theorem b43_flt (op : ByteArray) (t s : ByteArray) (n f ro rf rl rc : Int) (pa ia : Option Addr) (pn pc iN ic : Nat) (s2 : ByteArray) (n2 f2 ro2 rf2 rl2 rc2 : Int) (pa2 ia2 : Option Addr) (pn2 pc2 iN2 ic2 : Nat) (d : Dat) (r : Bool) (w : World)
    (hf : ∀ w, Calls Tryz.prog 69 #[.string op, .string t, .float .f64 f.toNat, .float .f64 f2.toNat] w fun e w' => e = .returned (.tuple #[d.val, .bool r]) ∧ Below w.heap.size w w') :
    Calls Tryz.prog 43 #[.string op, (Dat.mk 3 t n f s ro rf rl rc pa pn pc ia iN ic).val, (Dat.mk 3 t n2 f2 s2 ro2 rf2 rl2 rc2 pa2 pn2 pc2 ia2 iN2 ic2).val] w fun e w' => e = .returned (.tuple #[d.val, .bool r, .nilIface]) ∧ Below w.heap.size w w' := by
    unfold Dat.val at hf
    unfold Dat.val
    go_enter Tryz.func43, Tryz.ntmps43
    go_wp2_with fail
    obtain ⟨w1, RA, RB, RC, HB, e⟩ : ∃ w1, Row w1 w.heap.size 28 [.int .i64 3, .string t, .int .i64 n, .int .u64 f, .string s, .int .i64 ro, .int .i64 rf, .int .i64 rl, .int .i64 rc, .slice pa pn pc, .slice ia iN ic] ∧ Row w1 (w.heap.size + 1) 28 [.int .i64 3, .string t, .int .i64 n2, .int .u64 f2, .string s2, .int .i64 ro2, .int .i64 rf2, .int .i64 rl2, .int .i64 rc2, .slice pa2 pn2 pc2, .slice ia2 iN2 ic2] ∧ Row w1 (w.heap.size + 1 + 1) 28 [.int .i64 0, .string ⟨#[]⟩, .int .i64 0, .int .u64 0, .string ⟨#[]⟩, .int .i64 0, .int .i64 0, .int .i64 0, .int .i64 0, .slice none 0 0, .slice none 0 0] ∧ Below w.heap.size w w1 ∧ (((w.alloc (.cells [.int .i64 3, .string t, .int .i64 n, .int .u64 f, .string s, .int .i64 ro, .int .i64 rf, .int .i64 rl, .int .i64 rc, .slice pa pn pc, .slice ia iN ic].toArray 28)).alloc (.cells [.int .i64 3, .string t, .int .i64 n2, .int .u64 f2, .string s2, .int .i64 ro2, .int .i64 rf2, .int .i64 rl2, .int .i64 rc2, .slice pa2 pn2 pc2, .slice ia2 iN2 ic2].toArray 28)).alloc (.cells [.int .i64 0, .string ⟨#[]⟩, .int .i64 0, .int .u64 0, .string ⟨#[]⟩, .int .i64 0, .int .i64 0, .int .i64 0, .int .i64 0, .slice none 0 0, .slice none 0 0].toArray 28)) = w1 :=
      ⟨_, ((Row.made w 28 _).alloc _).alloc _, (row_at1' w _ 28 _).alloc _, row_at2 w _ _ 28 _, below3 w _ _ _, rfl⟩
    rw [e]
    clear e
    have k1 := RA.cell 1
    have k2 := RA.cell 3
    have k3 := RB.cell 3
    simp only [List.getElem?_cons_zero, List.getElem?_cons_succ] at k1 k2 k3
    have n1 := World.new_ne _ _ k1
    have n2 := World.new_ne _ _ k2
    have n3 := World.new_ne _ _ k3
    have n4 : Hid (w.heap.size + 1 + 1 ≠ w1.heap.size) := Nat.ne_of_lt RC.lt
    have n5 : Hid (w.heap.size ≤ w1.heap.size) := HB.size
    replace RA := Lib.hid RA
    replace RB := Lib.hid RB
    replace RC := Lib.hid RC
    replace HB := Lib.hid HB
    go_region_held3 (fun w' => w'.cell? ⟨w.heap.size, 1, none⟩ = some (.string t) ∧ w'.cell? ⟨w.heap.size, 3, none⟩ = some (.int .u64 f) ∧ w'.cell? ⟨w.heap.size + 1, 3, none⟩ = some (.int .u64 f2)) (first | go_keep | exact ⟨k1, k2, k3⟩) (first | (go_at_call 69; refine (hf _).mono ?_; rintro en w2 ⟨rfl, hb⟩; (with_reducible have RA2 := RA.out.drew.below hb RA.out.drew.lt); have RB2 := RB.out.drew.below hb RB.out.drew.lt; have RC2 := Lib.hid (RC.out.drew.below hb RC.out.drew.lt); have HB2 : Hid (Below w.heap.size w w2) := below_more (below_drew HB.out) hb HB.out.size; have k1 := RA2.cell 1; have k2 := RA2.cell 3; have k3 := RB2.cell 3; simp only [List.getElem?_cons_zero, List.getElem?_cons_succ] at k1 k2 k3; have n1 := World.new_ne _ _ k1; have n2 := World.new_ne _ _ k2; have n3 := World.new_ne _ _ k3; clear RA2 RB2 hb) | (go_at_call 69; refine (hf _).mono ?_; rintro en w2 ⟨rfl, hb⟩; have RA2 := (RA.out.alloc _).drew.below hb (RA.out.alloc _).drew.lt; have RB2 := (RB.out.alloc _).drew.below hb (RB.out.alloc _).drew.lt; have RC2 := Lib.hid ((RC.out.alloc _).drew.below hb (RC.out.alloc _).drew.lt); have RD2 := Lib.hid ((Row.made w1 28 [.int .i64 0, .string ⟨#[]⟩, .int .i64 0, .int .u64 0, .string ⟨#[]⟩, .int .i64 0, .int .i64 0, .int .i64 0, .int .i64 0, .slice none 0 0, .slice none 0 0]).drew.below hb (Row.made w1 28 [.int .i64 0, .string ⟨#[]⟩, .int .i64 0, .int .u64 0, .string ⟨#[]⟩, .int .i64 0, .int .i64 0, .int .i64 0, .int .i64 0, .slice none 0 0, .slice none 0 0]).drew.lt); have HB2 : Hid (Below w.heap.size w w2) := below_more (below_drew (HB.out.alloc HB.out.size _)) hb (by have := HB.out.size; simp [World.drew] <;> omega); have k1 := RA2.cell 1; have k2 := RA2.cell 3; have k3 := RB2.cell 3; obtain ⟨c0, c1, c2, c3, c4, c5, c6, c7, c8, c9, c10, cf⟩ := row11 RD2.out; simp only [List.getElem?_cons_zero, List.getElem?_cons_succ] at k1 k2 k3; have n1 := World.new_ne _ _ k1; have n2 := World.new_ne _ _ k2; have n3 := World.new_ne _ _ k3; clear RA2 RB2 hb))
    all_goals
      first
        | with_reducible refine go_on (p := Exit.then _ _ _ _) (g6 := w.heap.size + 1 + 1) (c9 := [.int .i64 d.k, .string d.t, .int .i64 d.n, .int .u64 d.f, .string d.s, .int .i64 d.ro, .int .i64 d.rf, .int .i64 d.rl, .int .i64 d.rc, .slice d.pa d.pn d.pc, .slice d.ia d.iN d.ic]) (B := w.heap.size) (w := w) (Row.made w2 28 [.int .i64 d.k, .string d.t, .int .i64 d.n, .int .u64 d.f, .string d.s, .int .i64 d.ro, .int .i64 d.rf, .int .i64 d.rl, .int .i64 d.rc, .slice d.pa d.pn d.pc, .slice d.ia d.iN d.ic]) (RC2.out.alloc _) (HB2.out.alloc HB2.out.size _) ?_
        | with_reducible refine go_on (p := Exit.then _ _ _ _) (g6 := w.heap.size + 1 + 1) (c9 := [.int .i64 d.k, .string d.t, .int .i64 d.n, .int .u64 d.f, .string d.s, .int .i64 d.ro, .int .i64 d.rf, .int .i64 d.rl, .int .i64 d.rc, .slice d.pa d.pn d.pc, .slice d.ia d.iN d.ic]) (B := w.heap.size) (w := w) (set11 RD2.out) (far11 RC2.out n4.out) (below11 HB2.out n5.out) ?_
      intro wz R9 R6 HBz
      obtain ⟨p0, p1, p2, p3, p4, p5, p6, p7, p8, p9, p10, pf⟩ := row11 R9
      obtain ⟨q0, q1, q2, q3, q4, q5, q6, q7, q8, q9, q10, qf⟩ := row11 R6
      replace HBz := Lib.hid HBz
      replace R6 := Lib.hid R6
      clear R9
      go_wp2
      exact bodyPost_ret (ret_ctt rfl _ _ (w.heap.size + 1 + 1) _ rfl (set11 R6.out) rfl) rfl ⟨rfl, below11 HBz.out (by omega)⟩

/-- What comes out of an operation on floats: one NaN for all. -/
def fr (o : Option Nat) : Int := match o with | some r => fixNan r | none => 9221120237041090561
theorem nan_pick (q : Nat) : fixNan ((q % 2) * 2 ^ 63 + 0x7ff0000000000000 + 1 + (q / 2) % (2 ^ 52 - 1)) = 9221120237041090561 := by
  unfold fixNan
  rw [nan_bits, if_pos]
  show decide (9218868437227405312 < ((q % 2) * 9223372036854775808 + 9218868437227405312 + 1 + q / 2 % 4503599627370495) % 9223372036854775808) = true
  have h1 : q / 2 % 4503599627370495 < 4503599627370495 := Nat.mod_lt _ (by decide)
  generalize q / 2 % 4503599627370495 = r at *
  generalize q % 2 = u
  exact decide_eq_true (by omega)
theorem arith_none (op : BinOp) (x y : Nat) (h : op = .add ∨ op = .sub ∨ op = .mul ∨ op = .quo) (hn : floatBits op .f64 x y = none) :
    ∃ rr : World → Nat, (∀ w, (binOp op 71 (.float .f64 x) (.float .f64 y)).run Tryz.prog w = .ok (.float .f64 (rr w)) w.drew) ∧ ∀ w, fixNan (rr w) = 9221120237041090561 := by
  refine ⟨fun w => (Question.nanBits .f64 x y).cut (w.tape w.drawn (.nanBits .f64 x y)), fun w => ?_, fun w => nan_pick _⟩
  rcases h with rfl | rfl | rfl | rfl <;>
  · simp only [floatBits] at hn
    simp [binOp, Op.floatArith, hn, Question.forced]
theorem arith_some (op : BinOp) (x y r : Nat) (h : floatBits op .f64 x y = some r) (w : World) : (binOp op 71 (.float .f64 x) (.float .f64 y)).run Tryz.prog w = .ok (.float .f64 r) w := run_float_arith w op 71 .f64 x y r h
set_option maxRecDepth 200000 in
set_option maxHeartbeats 2000000 in
theorem fl_add (t : ByteArray) (x y : Nat) (w : World) : Calls Tryz.prog 69 #[.string ⟨#[43]⟩, .string t, .float .f64 x, .float .f64 y] w fun e w' => e = .returned (.tuple #[(mk 3 t 0 (fr (floatBits .add .f64 x y)) ⟨#[]⟩).val, .bool true]) ∧ Below w.heap.size w w' := by
  have HF := Lib.hid fun (b : Nat) (w : World) => float_any t b w
  cases hb : floatBits .add .f64 x y with
  | some r =>
    have hr := arith_some .add x y r hb
    show Calls _ _ _ _ fun e w' => e = .returned (.tuple #[(mk 3 t 0 (fixNan r) ⟨#[]⟩).val, .bool true]) ∧ _
    clear hb
    generalize hR : fixNan r = R
    have HR := Lib.hid hR
    clear hR
    unfold mk Dat.val at *
    go_enter Tryz.func69, Tryz.ntmps69
    go_wp2_with (first
      | (go_at_call 36; refine (HF.out _ _).mono ?_; rintro en w2 ⟨rfl, hb⟩
         rw [HR.out]
         have R2 : Hid (Row w2 w.heap.size 28 zeroC) := (Row.made w 28 zeroC).below hb (by simp)
         have B2 : Hid (Below w.heap.size w w2) := below_more (below1 w _) hb (by simp <;> omega)
         clear hb HF)
      | (refine put_dat (.tmp 8) (.tmp 17) w.heap.size zeroC (mk 3 t 0 R ⟨#[]⟩).cells _ rfl rfl rfl rfl R2.out rfl rfl rfl ?_; intro w5 hr5 hb5 hf5
         have B5 : Hid (Below w.heap.size w w5) := B2.out.trans (hb5 _ (by omega))
         have R5 := Lib.hid hr5
         clear B2 R2 hb5 hr5 hf5))
    exact bodyPost_ret (ret_ct rfl _ _ w.heap.size _ rfl R5.out rfl) rfl ⟨rfl, B5.out⟩
  | none =>
    obtain ⟨rr, hr, hN⟩ := arith_none .add x y (by simp) hb
    show Calls _ _ _ _ fun e w' => e = .returned (.tuple #[(mk 3 t 0 9221120237041090561 ⟨#[]⟩).val, .bool true]) ∧ _
    clear hb
    have HR := Lib.hid hN
    clear hN
    unfold mk Dat.val at *
    go_enter Tryz.func69, Tryz.ntmps69
    go_wp2_with (first
      | (go_at_call 36; refine (HF.out _ _).mono ?_; rintro en w2 ⟨rfl, hb⟩
         rw [HR.out]
         have R2 : Hid (Row w2 w.heap.size 28 zeroC) := (Row.made w 28 zeroC).drew.below hb (Row.made w 28 zeroC).drew.lt
         have B2 : Hid (Below w.heap.size w w2) := below_more (below_drew (below1 w _)) hb (by show w.heap.size ≤ (w.alloc _).heap.size; simp)
         clear hb HF)
      | (refine put_dat (.tmp 8) (.tmp 17) w.heap.size zeroC (mk 3 t 0 9221120237041090561 ⟨#[]⟩).cells _ rfl rfl rfl rfl R2.out rfl rfl rfl ?_; intro w5 hr5 hb5 hf5
         have B5 : Hid (Below w.heap.size w w5) := B2.out.trans (hb5 _ (by omega))
         have R5 := Lib.hid hr5
         clear B2 R2 hb5 hr5 hf5))
    exact bodyPost_ret (ret_ct rfl _ _ w.heap.size _ rfl R5.out rfl) rfl ⟨rfl, B5.out⟩
set_option maxRecDepth 200000 in
set_option maxHeartbeats 2000000 in
theorem fl_sub (t : ByteArray) (x y : Nat) (w : World) : Calls Tryz.prog 69 #[.string ⟨#[45]⟩, .string t, .float .f64 x, .float .f64 y] w fun e w' => e = .returned (.tuple #[(mk 3 t 0 (fr (floatBits .sub .f64 x y)) ⟨#[]⟩).val, .bool true]) ∧ Below w.heap.size w w' := by
  have HF := Lib.hid fun (b : Nat) (w : World) => float_any t b w
  cases hb : floatBits .sub .f64 x y with
  | some r =>
    have hr := arith_some .sub x y r hb
    show Calls _ _ _ _ fun e w' => e = .returned (.tuple #[(mk 3 t 0 (fixNan r) ⟨#[]⟩).val, .bool true]) ∧ _
    clear hb
    generalize hR : fixNan r = R
    have HR := Lib.hid hR
    clear hR
    unfold mk Dat.val at *
    go_enter Tryz.func69, Tryz.ntmps69
    go_wp2_with (first
      | (go_at_call 36; refine (HF.out _ _).mono ?_; rintro en w2 ⟨rfl, hb⟩
         rw [HR.out]
         have R2 : Hid (Row w2 w.heap.size 28 zeroC) := (Row.made w 28 zeroC).below hb (by simp)
         have B2 : Hid (Below w.heap.size w w2) := below_more (below1 w _) hb (by simp <;> omega)
         clear hb HF)
      | (refine put_dat (.tmp 8) (.tmp 24) w.heap.size zeroC (mk 3 t 0 R ⟨#[]⟩).cells _ rfl rfl rfl rfl R2.out rfl rfl rfl ?_; intro w5 hr5 hb5 hf5
         have B5 : Hid (Below w.heap.size w w5) := B2.out.trans (hb5 _ (by omega))
         have R5 := Lib.hid hr5
         clear B2 R2 hb5 hr5 hf5))
    exact bodyPost_ret (ret_ct rfl _ _ w.heap.size _ rfl R5.out rfl) rfl ⟨rfl, B5.out⟩
  | none =>
    obtain ⟨rr, hr, hN⟩ := arith_none .sub x y (by simp) hb
    show Calls _ _ _ _ fun e w' => e = .returned (.tuple #[(mk 3 t 0 9221120237041090561 ⟨#[]⟩).val, .bool true]) ∧ _
    clear hb
    have HR := Lib.hid hN
    clear hN
    unfold mk Dat.val at *
    go_enter Tryz.func69, Tryz.ntmps69
    go_wp2_with (first
      | (go_at_call 36; refine (HF.out _ _).mono ?_; rintro en w2 ⟨rfl, hb⟩
         rw [HR.out]
         have R2 : Hid (Row w2 w.heap.size 28 zeroC) := (Row.made w 28 zeroC).drew.below hb (Row.made w 28 zeroC).drew.lt
         have B2 : Hid (Below w.heap.size w w2) := below_more (below_drew (below1 w _)) hb (by show w.heap.size ≤ (w.alloc _).heap.size; simp)
         clear hb HF)
      | (refine put_dat (.tmp 8) (.tmp 24) w.heap.size zeroC (mk 3 t 0 9221120237041090561 ⟨#[]⟩).cells _ rfl rfl rfl rfl R2.out rfl rfl rfl ?_; intro w5 hr5 hb5 hf5
         have B5 : Hid (Below w.heap.size w w5) := B2.out.trans (hb5 _ (by omega))
         have R5 := Lib.hid hr5
         clear B2 R2 hb5 hr5 hf5))
    exact bodyPost_ret (ret_ct rfl _ _ w.heap.size _ rfl R5.out rfl) rfl ⟨rfl, B5.out⟩
set_option maxRecDepth 200000 in
set_option maxHeartbeats 2000000 in
theorem fl_mul (t : ByteArray) (x y : Nat) (w : World) : Calls Tryz.prog 69 #[.string ⟨#[42]⟩, .string t, .float .f64 x, .float .f64 y] w fun e w' => e = .returned (.tuple #[(mk 3 t 0 (fr (floatBits .mul .f64 x y)) ⟨#[]⟩).val, .bool true]) ∧ Below w.heap.size w w' := by
  have HF := Lib.hid fun (b : Nat) (w : World) => float_any t b w
  cases hb : floatBits .mul .f64 x y with
  | some r =>
    have hr := arith_some .mul x y r hb
    show Calls _ _ _ _ fun e w' => e = .returned (.tuple #[(mk 3 t 0 (fixNan r) ⟨#[]⟩).val, .bool true]) ∧ _
    clear hb
    generalize hR : fixNan r = R
    have HR := Lib.hid hR
    clear hR
    unfold mk Dat.val at *
    go_enter Tryz.func69, Tryz.ntmps69
    go_wp2_with (first
      | (go_at_call 36; refine (HF.out _ _).mono ?_; rintro en w2 ⟨rfl, hb⟩
         rw [HR.out]
         have R2 : Hid (Row w2 w.heap.size 28 zeroC) := (Row.made w 28 zeroC).below hb (by simp)
         have B2 : Hid (Below w.heap.size w w2) := below_more (below1 w _) hb (by simp <;> omega)
         clear hb HF)
      | (refine put_dat (.tmp 8) (.tmp 31) w.heap.size zeroC (mk 3 t 0 R ⟨#[]⟩).cells _ rfl rfl rfl rfl R2.out rfl rfl rfl ?_; intro w5 hr5 hb5 hf5
         have B5 : Hid (Below w.heap.size w w5) := B2.out.trans (hb5 _ (by omega))
         have R5 := Lib.hid hr5
         clear B2 R2 hb5 hr5 hf5))
    exact bodyPost_ret (ret_ct rfl _ _ w.heap.size _ rfl R5.out rfl) rfl ⟨rfl, B5.out⟩
  | none =>
    obtain ⟨rr, hr, hN⟩ := arith_none .mul x y (by simp) hb
    show Calls _ _ _ _ fun e w' => e = .returned (.tuple #[(mk 3 t 0 9221120237041090561 ⟨#[]⟩).val, .bool true]) ∧ _
    clear hb
    have HR := Lib.hid hN
    clear hN
    unfold mk Dat.val at *
    go_enter Tryz.func69, Tryz.ntmps69
    go_wp2_with (first
      | (go_at_call 36; refine (HF.out _ _).mono ?_; rintro en w2 ⟨rfl, hb⟩
         rw [HR.out]
         have R2 : Hid (Row w2 w.heap.size 28 zeroC) := (Row.made w 28 zeroC).drew.below hb (Row.made w 28 zeroC).drew.lt
         have B2 : Hid (Below w.heap.size w w2) := below_more (below_drew (below1 w _)) hb (by show w.heap.size ≤ (w.alloc _).heap.size; simp)
         clear hb HF)
      | (refine put_dat (.tmp 8) (.tmp 31) w.heap.size zeroC (mk 3 t 0 9221120237041090561 ⟨#[]⟩).cells _ rfl rfl rfl rfl R2.out rfl rfl rfl ?_; intro w5 hr5 hb5 hf5
         have B5 : Hid (Below w.heap.size w w5) := B2.out.trans (hb5 _ (by omega))
         have R5 := Lib.hid hr5
         clear B2 R2 hb5 hr5 hf5))
    exact bodyPost_ret (ret_ct rfl _ _ w.heap.size _ rfl R5.out rfl) rfl ⟨rfl, B5.out⟩
set_option maxRecDepth 200000 in
set_option maxHeartbeats 2000000 in
theorem fl_quo (t : ByteArray) (x y : Nat) (w : World) : Calls Tryz.prog 69 #[.string ⟨#[47]⟩, .string t, .float .f64 x, .float .f64 y] w fun e w' => e = .returned (.tuple #[(mk 3 t 0 (fr (floatBits .quo .f64 x y)) ⟨#[]⟩).val, .bool true]) ∧ Below w.heap.size w w' := by
  have HF := Lib.hid fun (b : Nat) (w : World) => float_any t b w
  cases hb : floatBits .quo .f64 x y with
  | some r =>
    have hr := arith_some .quo x y r hb
    show Calls _ _ _ _ fun e w' => e = .returned (.tuple #[(mk 3 t 0 (fixNan r) ⟨#[]⟩).val, .bool true]) ∧ _
    clear hb
    generalize hR : fixNan r = R
    have HR := Lib.hid hR
    clear hR
    unfold mk Dat.val at *
    go_enter Tryz.func69, Tryz.ntmps69
    go_wp2_with (first
      | (go_at_call 36; refine (HF.out _ _).mono ?_; rintro en w2 ⟨rfl, hb⟩
         rw [HR.out]
         have R2 : Hid (Row w2 w.heap.size 28 zeroC) := (Row.made w 28 zeroC).below hb (by simp)
         have B2 : Hid (Below w.heap.size w w2) := below_more (below1 w _) hb (by simp <;> omega)
         clear hb HF)
      | (refine put_dat (.tmp 8) (.tmp 38) w.heap.size zeroC (mk 3 t 0 R ⟨#[]⟩).cells _ rfl rfl rfl rfl R2.out rfl rfl rfl ?_; intro w5 hr5 hb5 hf5
         have B5 : Hid (Below w.heap.size w w5) := B2.out.trans (hb5 _ (by omega))
         have R5 := Lib.hid hr5
         clear B2 R2 hb5 hr5 hf5))
    exact bodyPost_ret (ret_ct rfl _ _ w.heap.size _ rfl R5.out rfl) rfl ⟨rfl, B5.out⟩
  | none =>
    obtain ⟨rr, hr, hN⟩ := arith_none .quo x y (by simp) hb
    show Calls _ _ _ _ fun e w' => e = .returned (.tuple #[(mk 3 t 0 9221120237041090561 ⟨#[]⟩).val, .bool true]) ∧ _
    clear hb
    have HR := Lib.hid hN
    clear hN
    unfold mk Dat.val at *
    go_enter Tryz.func69, Tryz.ntmps69
    go_wp2_with (first
      | (go_at_call 36; refine (HF.out _ _).mono ?_; rintro en w2 ⟨rfl, hb⟩
         rw [HR.out]
         have R2 : Hid (Row w2 w.heap.size 28 zeroC) := (Row.made w 28 zeroC).drew.below hb (Row.made w 28 zeroC).drew.lt
         have B2 : Hid (Below w.heap.size w w2) := below_more (below_drew (below1 w _)) hb (by show w.heap.size ≤ (w.alloc _).heap.size; simp)
         clear hb HF)
      | (refine put_dat (.tmp 8) (.tmp 38) w.heap.size zeroC (mk 3 t 0 9221120237041090561 ⟨#[]⟩).cells _ rfl rfl rfl rfl R2.out rfl rfl rfl ?_; intro w5 hr5 hb5 hf5
         have B5 : Hid (Below w.heap.size w w5) := B2.out.trans (hb5 _ (by omega))
         have R5 := Lib.hid hr5
         clear B2 R2 hb5 hr5 hf5))
    exact bodyPost_ret (ret_ct rfl _ _ w.heap.size _ rfl R5.out rfl) rfl ⟨rfl, B5.out⟩
set_option maxRecDepth 200000 in
set_option maxHeartbeats 2000000 in
theorem fl_no (op t : ByteArray) (x y : Nat) (w : World) (h0 : (op.toList == [43]) = false) (h1 : (op.toList == [45]) = false) (h2 : (op.toList == [42]) = false) (h3 : (op.toList == [47]) = false) (h4 : (op.toList == [60]) = false) (h5 : (op.toList == [60, 61]) = false) (h6 : (op.toList == [62]) = false) (h7 : (op.toList == [62, 61]) = false) : Calls Tryz.prog 69 #[.string op, .string t, .float .f64 x, .float .f64 y] w fun e w' => e = .returned (.tuple #[zeroD.val, .bool false]) ∧ Below w.heap.size w w' := by
  unfold zeroD mk Dat.val
  go_enter Tryz.func69, Tryz.ntmps69
  go_wp2
  go_returns
  exact ⟨rfl, by go_grown⟩
end Go.Proofs.YtehakhplglhkdaaGreatDoor
