/- The walk of NumberBack by what it calls. Conditions: what strconv reads of the package's variables. -/
import Derived.Test.YtehakhplglhkdaaGreatDoorBackB
import Derived.Test.YtehakhplglhkdaaGreatDoorKnown
import Derived.Deep.RegionHeld3
import Derived.Test.YtehakhplglhkdaaGreatDoorBin3
namespace Go.Proofs.YtehakhplglhkdaaGreatDoor
set_option linter.unusedVariables false
open Go.RowKit

set_option maxRecDepth 200000 in
set_option maxHeartbeats 8000000 in
theorem back_neg_nan (n : Int) (t : ByteArray) (f F r sm : Int) (w : World) (hG : Glob w) (hs : n < 0) (hrem : n.tmod 9007199254740992 = sm) (hx : decide (18437736874454810624 < IntKind.u64.wrap (f * 2)) = true) (hr : r = 9221120237041090561)
    (h32 : ∀ w, Calls Tryz.prog 32 #[.int .i64 n] w fun e w' => e = .returned (.agg #[.int .i64 2, .string ⟨#[105, 110, 116]⟩, .int .i64 n, .int .u64 0, .string ⟨#[]⟩, .int .i64 0, .int .i64 0, .int .i64 0, .int .i64 0, .slice none 0 0, .slice none 0 0]) ∧ Below w.heap.size w w')
    (c1 : ∀ w, Calls Tryz.prog 20 #[.int .i64 2, .string t, .agg #[.int .i64 2, .string ⟨#[105, 110, 116]⟩, .int .i64 n, .int .u64 0, .string ⟨#[]⟩, .int .i64 0, .int .i64 0, .int .i64 0, .int .i64 0, .slice none 0 0, .slice none 0 0]] w fun e w' => e = .returned (.tuple #[.agg #[.int .i64 2, .string t, .int .i64 n, .int .u64 0, .string ⟨#[]⟩, .int .i64 0, .int .i64 0, .int .i64 0, .int .i64 0, .slice none 0 0, .slice none 0 0], .nilIface]) ∧ Below w.heap.size w w')
    (c2 : ∀ w, Calls Tryz.prog 20 #[.int .i64 2, .string ⟨#[105, 110, 116]⟩, .agg #[.int .i64 2, .string t, .int .i64 n, .int .u64 0, .string ⟨#[]⟩, .int .i64 0, .int .i64 0, .int .i64 0, .int .i64 0, .slice none 0 0, .slice none 0 0]] w fun e w' => e = .returned (.tuple #[.agg #[.int .i64 2, .string ⟨#[105, 110, 116]⟩, .int .i64 n, .int .u64 0, .string ⟨#[]⟩, .int .i64 0, .int .i64 0, .int .i64 0, .int .i64 0, .slice none 0 0, .slice none 0 0], .nilIface]) ∧ Below w.heap.size w w')
    (h14 : ∀ w, Calls Tryz.prog 14 #[.agg #[.int .i64 2, .string ⟨#[105, 110, 116]⟩, .int .i64 n, .int .u64 0, .string ⟨#[]⟩, .int .i64 0, .int .i64 0, .int .i64 0, .int .i64 0, .slice none 0 0, .slice none 0 0], .agg #[.int .i64 2, .string ⟨#[105, 110, 116]⟩, .int .i64 n, .int .u64 0, .string ⟨#[]⟩, .int .i64 0, .int .i64 0, .int .i64 0, .int .i64 0, .slice none 0 0, .slice none 0 0]] w fun e w' => e = .returned (.bool true) ∧ Below w.heap.size w w')
    (h32b : ∀ w, Calls Tryz.prog 32 #[.int .i64 sm] w fun e w' => e = .returned (.agg #[.int .i64 2, .string ⟨#[105, 110, 116]⟩, .int .i64 sm, .int .u64 0, .string ⟨#[]⟩, .int .i64 0, .int .i64 0, .int .i64 0, .int .i64 0, .slice none 0 0, .slice none 0 0]) ∧ Below w.heap.size w w')
    (c3 : ∀ w, Calls Tryz.prog 20 #[.int .i64 3, .string t, .agg #[.int .i64 2, .string ⟨#[105, 110, 116]⟩, .int .i64 sm, .int .u64 0, .string ⟨#[]⟩, .int .i64 0, .int .i64 0, .int .i64 0, .int .i64 0, .slice none 0 0, .slice none 0 0]] w fun e w' => e = .returned (.tuple #[.agg #[.int .i64 3, .string t, .int .i64 0, .int .u64 F, .string ⟨#[]⟩, .int .i64 0, .int .i64 0, .int .i64 0, .int .i64 0, .slice none 0 0, .slice none 0 0], .nilIface]) ∧ Below w.heap.size w w')
    (c4 : ∀ w, Calls Tryz.prog 20 #[.int .i64 2, .string ⟨#[105, 110, 116]⟩, .agg #[.int .i64 3, .string t, .int .i64 0, .int .u64 F, .string ⟨#[]⟩, .int .i64 0, .int .i64 0, .int .i64 0, .int .i64 0, .slice none 0 0, .slice none 0 0]] w fun e w' => e = .returned (.tuple #[.agg #[.int .i64 2, .string ⟨#[105, 110, 116]⟩, .int .i64 sm, .int .u64 0, .string ⟨#[]⟩, .int .i64 0, .int .i64 0, .int .i64 0, .int .i64 0, .slice none 0 0, .slice none 0 0], .nilIface]) ∧ Below w.heap.size w w')
    (c5 : ∀ w, Calls Tryz.prog 20 #[.int .i64 3, .string ⟨#[102, 108, 111, 97, 116]⟩, .agg #[.int .i64 3, .string t, .int .i64 0, .int .u64 f, .string ⟨#[]⟩, .int .i64 0, .int .i64 0, .int .i64 0, .int .i64 0, .slice none 0 0, .slice none 0 0]] w fun e w' => e = .returned (.tuple #[.agg #[.int .i64 3, .string ⟨#[102, 108, 111, 97, 116]⟩, .int .i64 0, .int .u64 r, .string ⟨#[]⟩, .int .i64 0, .int .i64 0, .int .i64 0, .int .i64 0, .slice none 0 0, .slice none 0 0], .nilIface]) ∧ Below w.heap.size w w') :
    Calls Tryz.prog 10 #[.int .i64 n, .string t, .int .u64 f] w fun e w' => e = .returned (.bool true) ∧ Below w.heap.size w w' := by
  have h11 := Lib.hid fun w (h : Glob w) => known_any w h
  have HG := Lib.hid hG
  have K32 := Lib.hid h32
  have K32b := Lib.hid h32
  have K32c := Lib.hid h32b
  have Kc1 := Lib.hid c1
  have Kc2 := Lib.hid c2
  have Kc3 := Lib.hid c3
  have Kc4 := Lib.hid c4
  have Kc5 := Lib.hid c5
  have K14 := Lib.hid h14
  clear h32 c1 c2 h14 h32b c3 c4 c5 hG
  subst hr
  go_enter Tryz.func10, Tryz.ntmps10
  go_wp2_with (first
    | (go_at_call 11; refine (h11.out _ HG.out).mono ?_; rintro en w1 ⟨rfl, hb⟩; have B1 := Lib.hid hb; clear hb h11 HG)
    | (go_at_call 32; refine (K32.out _).mono ?_; rintro en w2 ⟨rfl, hb⟩; have B2 : Hid (Below w.heap.size w w2) := below_more B1.out hb B1.out.size; clear hb B1 K32)
    | (go_at_call 20; have ord := B2.out.size; refine (Kc1.out _).mono ?_; rintro en w3 ⟨rfl, hb⟩; have B3 : Hid (Below w.heap.size w w3) := below_more B2.out hb B2.out.size; clear hb ord B2 Kc1)
    | (go_at_call 20; have ord := B3.out.size; refine (Kc2.out _).mono ?_; rintro en w4 ⟨rfl, hb⟩
       have B4 : Hid (Below w.heap.size w w4) := below_more (B3.out.alloc B3.out.size _) hb (by simp <;> omega)
       have R8 : Hid (Row w4 w3.heap.size 28 [.int .i64 2, .string t, .int .i64 n, .int .u64 0, .string ⟨#[]⟩, .int .i64 0, .int .i64 0, .int .i64 0, .int .i64 0, .slice none 0 0, .slice none 0 0]) := (Row.made w3 28 [.int .i64 2, .string t, .int .i64 n, .int .u64 0, .string ⟨#[]⟩, .int .i64 0, .int .i64 0, .int .i64 0, .int .i64 0, .slice none 0 0, .slice none 0 0]).below hb (Row.made w3 28 [.int .i64 2, .string t, .int .i64 n, .int .u64 0, .string ⟨#[]⟩, .int .i64 0, .int .i64 0, .int .i64 0, .int .i64 0, .slice none 0 0, .slice none 0 0]).lt
       clear hb ord B3 Kc2))
  obtain ⟨w5, R8', R10, B5, e⟩ : ∃ w5, Row w5 w3.heap.size 28 [.int .i64 2, .string t, .int .i64 n, .int .u64 0, .string ⟨#[]⟩, .int .i64 0, .int .i64 0, .int .i64 0, .int .i64 0, .slice none 0 0, .slice none 0 0] ∧ Row w5 w4.heap.size 28 [.int .i64 2, .string ⟨#[105, 110, 116]⟩, .int .i64 n, .int .u64 0, .string ⟨#[]⟩, .int .i64 0, .int .i64 0, .int .i64 0, .int .i64 0, .slice none 0 0, .slice none 0 0] ∧ Below w.heap.size w w5 ∧ w4.alloc (.cells ([.int .i64 2, .string ⟨#[105, 110, 116]⟩, .int .i64 n, .int .u64 0, .string ⟨#[]⟩, .int .i64 0, .int .i64 0, .int .i64 0, .int .i64 0, .slice none 0 0, .slice none 0 0] : List Value).toArray 28) = w5 :=
    ⟨_, R8.out.alloc _, Row.made w4 28 _, B4.out.alloc B4.out.size _, rfl⟩
  rw [e]
  clear e R8
  have R8 := Lib.hid R8'
  clear R8'
  obtain ⟨k0, k1, k2, k3, k4, k5, k6, k7, k8, k9, k10, kf⟩ := row11 R10
  replace R10 := Lib.hid R10
  replace B5 := Lib.hid B5
  clear B4
  have nk := World.new_ne _ _ k0
  go_region_held3 (fun w' => w'.cell? ⟨w4.heap.size, 0, none⟩ = some (.int .i64 2) ∧ w'.cell? ⟨w4.heap.size, 1, none⟩ = some (.string ⟨#[105, 110, 116]⟩) ∧ w'.cell? ⟨w4.heap.size, 2, none⟩ = some (.int .i64 n) ∧ w'.cell? ⟨w4.heap.size, 3, none⟩ = some (.int .u64 0) ∧ w'.cell? ⟨w4.heap.size, 4, none⟩ = some (.string ⟨#[]⟩) ∧ w'.cell? ⟨w4.heap.size, 5, none⟩ = some (.int .i64 0) ∧ w'.cell? ⟨w4.heap.size, 6, none⟩ = some (.int .i64 0) ∧ w'.cell? ⟨w4.heap.size, 7, none⟩ = some (.int .i64 0) ∧ w'.cell? ⟨w4.heap.size, 8, none⟩ = some (.int .i64 0) ∧ w'.cell? ⟨w4.heap.size, 9, none⟩ = some (.slice none 0 0) ∧ w'.cell? ⟨w4.heap.size, 10, none⟩ = some (.slice none 0 0)) (first | go_keep | exact ⟨k0, k1, k2, k3, k4, k5, k6, k7, k8, k9, k10⟩) (first | (go_at_call 32; refine (K32b.out _).mono ?_; rintro en w6 ⟨rfl, hb⟩; have B6 : Hid (Below w.heap.size w w6) := below_more (below_drew B5.out) hb B5.out.size; have R86 : Hid (Row w6 w3.heap.size 28 [.int .i64 2, .string t, .int .i64 n, .int .u64 0, .string ⟨#[]⟩, .int .i64 0, .int .i64 0, .int .i64 0, .int .i64 0, .slice none 0 0, .slice none 0 0]) := R8.out.drew.below hb R8.out.drew.lt; have R106 : Hid (Row w6 w4.heap.size 28 [.int .i64 2, .string ⟨#[105, 110, 116]⟩, .int .i64 n, .int .u64 0, .string ⟨#[]⟩, .int .i64 0, .int .i64 0, .int .i64 0, .int .i64 0, .slice none 0 0, .slice none 0 0]) := R10.out.drew.below hb R10.out.drew.lt; obtain ⟨k0, k1, k2, k3, k4, k5, k6, k7, k8, k9, k10, kf⟩ := row11 R106.out; clear hb B5 R8 R10) | (go_at_call 14; refine (K14.out _).mono ?_; rintro en w7 ⟨rfl, hb⟩; have B7 : Hid (Below w.heap.size w w7) := below_more B6.out hb B6.out.size; have R87 : Hid (Row w7 w3.heap.size 28 [.int .i64 2, .string t, .int .i64 n, .int .u64 0, .string ⟨#[]⟩, .int .i64 0, .int .i64 0, .int .i64 0, .int .i64 0, .slice none 0 0, .slice none 0 0]) := R86.out.below hb R86.out.lt; have R107 : Hid (Row w7 w4.heap.size 28 [.int .i64 2, .string ⟨#[105, 110, 116]⟩, .int .i64 n, .int .u64 0, .string ⟨#[]⟩, .int .i64 0, .int .i64 0, .int .i64 0, .int .i64 0, .slice none 0 0, .slice none 0 0]) := R106.out.below hb R106.out.lt; obtain ⟨k0, k1, k2, k3, k4, k5, k6, k7, k8, k9, k10, kf⟩ := row11 R107.out; clear hb B6 R86 R106))
  all_goals
    obtain ⟨p0, p1, p2, p3, p4, p5, p6, p7, p8, p9, p10, pf⟩ := row11 R87.out; have pl := R87.out.lt
    obtain ⟨q0, q1, q2, q3, q4, q5, q6, q7, q8, q9, q10, qf⟩ := row11 R107.out; have ql := R107.out.lt
    go_wp2_with (first
    | (go_at_call 32; refine (K32c.out _).mono ?_; rintro en w10 ⟨rfl, hb⟩; have B10 : Hid (Below w.heap.size w w10) := below_more B7.out hb B7.out.size; clear hb B7 K32c R87 R107 p0 p1 p2 p3 p4 p5 p6 p7 p8 p9 p10 pf pl q0 q1 q2 q3 q4 q5 q6 q7 q8 q9 q10 qf ql)
    | (go_at_call 20; have ord := B10.out.size; refine (Kc3.out _).mono ?_; rintro en w11 ⟨rfl, hb⟩; have B11 : Hid (Below w.heap.size w w11) := below_more B10.out hb B10.out.size; clear hb ord B10 Kc3)
    | (go_at_call 20; have ord := B11.out.size; refine (Kc4.out _).mono ?_; rintro en w12 ⟨rfl, hb⟩
       have B12 : Hid (Below w.heap.size w w12) := below_more (B11.out.alloc B11.out.size _) hb (by simp <;> omega)
       have R17 : Hid (Row w12 w11.heap.size 28 [.int .i64 3, .string t, .int .i64 0, .int .u64 F, .string ⟨#[]⟩, .int .i64 0, .int .i64 0, .int .i64 0, .int .i64 0, .slice none 0 0, .slice none 0 0]) := (Row.made w11 28 [.int .i64 3, .string t, .int .i64 0, .int .u64 F, .string ⟨#[]⟩, .int .i64 0, .int .i64 0, .int .i64 0, .int .i64 0, .slice none 0 0, .slice none 0 0]).below hb (Row.made w11 28 [.int .i64 3, .string t, .int .i64 0, .int .u64 F, .string ⟨#[]⟩, .int .i64 0, .int .i64 0, .int .i64 0, .int .i64 0, .slice none 0 0, .slice none 0 0]).lt
       clear hb ord B11 Kc4)
    | (go_at_call 20; have ord := B12.out.size; refine (Kc5.out _).mono ?_; rintro en w13 ⟨rfl, hb⟩
       have B13 : Hid (Below w.heap.size w w13) := below_more (B12.out.alloc B12.out.size _) hb (by simp <;> omega)
       replace R17 : Hid (Row w13 w11.heap.size 28 [.int .i64 3, .string t, .int .i64 0, .int .u64 F, .string ⟨#[]⟩, .int .i64 0, .int .i64 0, .int .i64 0, .int .i64 0, .slice none 0 0, .slice none 0 0]) := (R17.out.alloc _).below hb (R17.out.alloc _).lt
       have R19 : Hid (Row w13 w12.heap.size 28 [.int .i64 2, .string ⟨#[105, 110, 116]⟩, .int .i64 sm, .int .u64 0, .string ⟨#[]⟩, .int .i64 0, .int .i64 0, .int .i64 0, .int .i64 0, .slice none 0 0, .slice none 0 0]) := (Row.made w12 28 [.int .i64 2, .string ⟨#[105, 110, 116]⟩, .int .i64 sm, .int .u64 0, .string ⟨#[]⟩, .int .i64 0, .int .i64 0, .int .i64 0, .int .i64 0, .slice none 0 0, .slice none 0 0]).below hb (Row.made w12 28 [.int .i64 2, .string ⟨#[105, 110, 116]⟩, .int .i64 sm, .int .u64 0, .string ⟨#[]⟩, .int .i64 0, .int .i64 0, .int .i64 0, .int .i64 0, .slice none 0 0, .slice none 0 0]).lt
       obtain ⟨x0, x1, x2, x3, x4, x5, x6, x7, x8, x9, x10, xf⟩ := row11 R17.out; have xl := R17.out.lt
       obtain ⟨y0, y1, y2, y3, y4, y5, y6, y7, y8, y9, y10, yf⟩ := row11 R19.out; have yl := R19.out.lt
       clear hb ord B12 Kc5 R17 R19))
    all_goals
      go_returns
      exact ⟨rfl, B13.out.alloc B13.out.size _⟩
set_option maxRecDepth 200000 in
set_option maxHeartbeats 8000000 in
theorem back_neg (n : Int) (t : ByteArray) (f F r sm : Int) (w : World) (hG : Glob w) (hs : n < 0) (hrem : n.tmod 9007199254740992 = sm) (hx : decide (18437736874454810624 < IntKind.u64.wrap (f * 2)) = false) (hr : r = f)
    (h32 : ∀ w, Calls Tryz.prog 32 #[.int .i64 n] w fun e w' => e = .returned (.agg #[.int .i64 2, .string ⟨#[105, 110, 116]⟩, .int .i64 n, .int .u64 0, .string ⟨#[]⟩, .int .i64 0, .int .i64 0, .int .i64 0, .int .i64 0, .slice none 0 0, .slice none 0 0]) ∧ Below w.heap.size w w')
    (c1 : ∀ w, Calls Tryz.prog 20 #[.int .i64 2, .string t, .agg #[.int .i64 2, .string ⟨#[105, 110, 116]⟩, .int .i64 n, .int .u64 0, .string ⟨#[]⟩, .int .i64 0, .int .i64 0, .int .i64 0, .int .i64 0, .slice none 0 0, .slice none 0 0]] w fun e w' => e = .returned (.tuple #[.agg #[.int .i64 2, .string t, .int .i64 n, .int .u64 0, .string ⟨#[]⟩, .int .i64 0, .int .i64 0, .int .i64 0, .int .i64 0, .slice none 0 0, .slice none 0 0], .nilIface]) ∧ Below w.heap.size w w')
    (c2 : ∀ w, Calls Tryz.prog 20 #[.int .i64 2, .string ⟨#[105, 110, 116]⟩, .agg #[.int .i64 2, .string t, .int .i64 n, .int .u64 0, .string ⟨#[]⟩, .int .i64 0, .int .i64 0, .int .i64 0, .int .i64 0, .slice none 0 0, .slice none 0 0]] w fun e w' => e = .returned (.tuple #[.agg #[.int .i64 2, .string ⟨#[105, 110, 116]⟩, .int .i64 n, .int .u64 0, .string ⟨#[]⟩, .int .i64 0, .int .i64 0, .int .i64 0, .int .i64 0, .slice none 0 0, .slice none 0 0], .nilIface]) ∧ Below w.heap.size w w')
    (h14 : ∀ w, Calls Tryz.prog 14 #[.agg #[.int .i64 2, .string ⟨#[105, 110, 116]⟩, .int .i64 n, .int .u64 0, .string ⟨#[]⟩, .int .i64 0, .int .i64 0, .int .i64 0, .int .i64 0, .slice none 0 0, .slice none 0 0], .agg #[.int .i64 2, .string ⟨#[105, 110, 116]⟩, .int .i64 n, .int .u64 0, .string ⟨#[]⟩, .int .i64 0, .int .i64 0, .int .i64 0, .int .i64 0, .slice none 0 0, .slice none 0 0]] w fun e w' => e = .returned (.bool true) ∧ Below w.heap.size w w')
    (h32b : ∀ w, Calls Tryz.prog 32 #[.int .i64 sm] w fun e w' => e = .returned (.agg #[.int .i64 2, .string ⟨#[105, 110, 116]⟩, .int .i64 sm, .int .u64 0, .string ⟨#[]⟩, .int .i64 0, .int .i64 0, .int .i64 0, .int .i64 0, .slice none 0 0, .slice none 0 0]) ∧ Below w.heap.size w w')
    (c3 : ∀ w, Calls Tryz.prog 20 #[.int .i64 3, .string t, .agg #[.int .i64 2, .string ⟨#[105, 110, 116]⟩, .int .i64 sm, .int .u64 0, .string ⟨#[]⟩, .int .i64 0, .int .i64 0, .int .i64 0, .int .i64 0, .slice none 0 0, .slice none 0 0]] w fun e w' => e = .returned (.tuple #[.agg #[.int .i64 3, .string t, .int .i64 0, .int .u64 F, .string ⟨#[]⟩, .int .i64 0, .int .i64 0, .int .i64 0, .int .i64 0, .slice none 0 0, .slice none 0 0], .nilIface]) ∧ Below w.heap.size w w')
    (c4 : ∀ w, Calls Tryz.prog 20 #[.int .i64 2, .string ⟨#[105, 110, 116]⟩, .agg #[.int .i64 3, .string t, .int .i64 0, .int .u64 F, .string ⟨#[]⟩, .int .i64 0, .int .i64 0, .int .i64 0, .int .i64 0, .slice none 0 0, .slice none 0 0]] w fun e w' => e = .returned (.tuple #[.agg #[.int .i64 2, .string ⟨#[105, 110, 116]⟩, .int .i64 sm, .int .u64 0, .string ⟨#[]⟩, .int .i64 0, .int .i64 0, .int .i64 0, .int .i64 0, .slice none 0 0, .slice none 0 0], .nilIface]) ∧ Below w.heap.size w w')
    (c5 : ∀ w, Calls Tryz.prog 20 #[.int .i64 3, .string ⟨#[102, 108, 111, 97, 116]⟩, .agg #[.int .i64 3, .string t, .int .i64 0, .int .u64 f, .string ⟨#[]⟩, .int .i64 0, .int .i64 0, .int .i64 0, .int .i64 0, .slice none 0 0, .slice none 0 0]] w fun e w' => e = .returned (.tuple #[.agg #[.int .i64 3, .string ⟨#[102, 108, 111, 97, 116]⟩, .int .i64 0, .int .u64 r, .string ⟨#[]⟩, .int .i64 0, .int .i64 0, .int .i64 0, .int .i64 0, .slice none 0 0, .slice none 0 0], .nilIface]) ∧ Below w.heap.size w w') :
    Calls Tryz.prog 10 #[.int .i64 n, .string t, .int .u64 f] w fun e w' => e = .returned (.bool true) ∧ Below w.heap.size w w' := by
  have h11 := Lib.hid fun w (h : Glob w) => known_any w h
  have HG := Lib.hid hG
  have K32 := Lib.hid h32
  have K32b := Lib.hid h32
  have K32c := Lib.hid h32b
  have Kc1 := Lib.hid c1
  have Kc2 := Lib.hid c2
  have Kc3 := Lib.hid c3
  have Kc4 := Lib.hid c4
  have Kc5 := Lib.hid c5
  have K14 := Lib.hid h14
  clear h32 c1 c2 h14 h32b c3 c4 c5 hG
  subst hr
  go_enter Tryz.func10, Tryz.ntmps10
  go_wp2_with (first
    | (go_at_call 11; refine (h11.out _ HG.out).mono ?_; rintro en w1 ⟨rfl, hb⟩; have B1 := Lib.hid hb; clear hb h11 HG)
    | (go_at_call 32; refine (K32.out _).mono ?_; rintro en w2 ⟨rfl, hb⟩; have B2 : Hid (Below w.heap.size w w2) := below_more B1.out hb B1.out.size; clear hb B1 K32)
    | (go_at_call 20; have ord := B2.out.size; refine (Kc1.out _).mono ?_; rintro en w3 ⟨rfl, hb⟩; have B3 : Hid (Below w.heap.size w w3) := below_more B2.out hb B2.out.size; clear hb ord B2 Kc1)
    | (go_at_call 20; have ord := B3.out.size; refine (Kc2.out _).mono ?_; rintro en w4 ⟨rfl, hb⟩
       have B4 : Hid (Below w.heap.size w w4) := below_more (B3.out.alloc B3.out.size _) hb (by simp <;> omega)
       have R8 : Hid (Row w4 w3.heap.size 28 [.int .i64 2, .string t, .int .i64 n, .int .u64 0, .string ⟨#[]⟩, .int .i64 0, .int .i64 0, .int .i64 0, .int .i64 0, .slice none 0 0, .slice none 0 0]) := (Row.made w3 28 [.int .i64 2, .string t, .int .i64 n, .int .u64 0, .string ⟨#[]⟩, .int .i64 0, .int .i64 0, .int .i64 0, .int .i64 0, .slice none 0 0, .slice none 0 0]).below hb (Row.made w3 28 [.int .i64 2, .string t, .int .i64 n, .int .u64 0, .string ⟨#[]⟩, .int .i64 0, .int .i64 0, .int .i64 0, .int .i64 0, .slice none 0 0, .slice none 0 0]).lt
       clear hb ord B3 Kc2))
  obtain ⟨w5, R8', R10, B5, e⟩ : ∃ w5, Row w5 w3.heap.size 28 [.int .i64 2, .string t, .int .i64 n, .int .u64 0, .string ⟨#[]⟩, .int .i64 0, .int .i64 0, .int .i64 0, .int .i64 0, .slice none 0 0, .slice none 0 0] ∧ Row w5 w4.heap.size 28 [.int .i64 2, .string ⟨#[105, 110, 116]⟩, .int .i64 n, .int .u64 0, .string ⟨#[]⟩, .int .i64 0, .int .i64 0, .int .i64 0, .int .i64 0, .slice none 0 0, .slice none 0 0] ∧ Below w.heap.size w w5 ∧ w4.alloc (.cells ([.int .i64 2, .string ⟨#[105, 110, 116]⟩, .int .i64 n, .int .u64 0, .string ⟨#[]⟩, .int .i64 0, .int .i64 0, .int .i64 0, .int .i64 0, .slice none 0 0, .slice none 0 0] : List Value).toArray 28) = w5 :=
    ⟨_, R8.out.alloc _, Row.made w4 28 _, B4.out.alloc B4.out.size _, rfl⟩
  rw [e]
  clear e R8
  have R8 := Lib.hid R8'
  clear R8'
  obtain ⟨k0, k1, k2, k3, k4, k5, k6, k7, k8, k9, k10, kf⟩ := row11 R10
  replace R10 := Lib.hid R10
  replace B5 := Lib.hid B5
  clear B4
  have nk := World.new_ne _ _ k0
  go_region_held3 (fun w' => w'.cell? ⟨w4.heap.size, 0, none⟩ = some (.int .i64 2) ∧ w'.cell? ⟨w4.heap.size, 1, none⟩ = some (.string ⟨#[105, 110, 116]⟩) ∧ w'.cell? ⟨w4.heap.size, 2, none⟩ = some (.int .i64 n) ∧ w'.cell? ⟨w4.heap.size, 3, none⟩ = some (.int .u64 0) ∧ w'.cell? ⟨w4.heap.size, 4, none⟩ = some (.string ⟨#[]⟩) ∧ w'.cell? ⟨w4.heap.size, 5, none⟩ = some (.int .i64 0) ∧ w'.cell? ⟨w4.heap.size, 6, none⟩ = some (.int .i64 0) ∧ w'.cell? ⟨w4.heap.size, 7, none⟩ = some (.int .i64 0) ∧ w'.cell? ⟨w4.heap.size, 8, none⟩ = some (.int .i64 0) ∧ w'.cell? ⟨w4.heap.size, 9, none⟩ = some (.slice none 0 0) ∧ w'.cell? ⟨w4.heap.size, 10, none⟩ = some (.slice none 0 0)) (first | go_keep | exact ⟨k0, k1, k2, k3, k4, k5, k6, k7, k8, k9, k10⟩) (first | (go_at_call 32; refine (K32b.out _).mono ?_; rintro en w6 ⟨rfl, hb⟩; have B6 : Hid (Below w.heap.size w w6) := below_more (below_drew B5.out) hb B5.out.size; have R86 : Hid (Row w6 w3.heap.size 28 [.int .i64 2, .string t, .int .i64 n, .int .u64 0, .string ⟨#[]⟩, .int .i64 0, .int .i64 0, .int .i64 0, .int .i64 0, .slice none 0 0, .slice none 0 0]) := R8.out.drew.below hb R8.out.drew.lt; have R106 : Hid (Row w6 w4.heap.size 28 [.int .i64 2, .string ⟨#[105, 110, 116]⟩, .int .i64 n, .int .u64 0, .string ⟨#[]⟩, .int .i64 0, .int .i64 0, .int .i64 0, .int .i64 0, .slice none 0 0, .slice none 0 0]) := R10.out.drew.below hb R10.out.drew.lt; obtain ⟨k0, k1, k2, k3, k4, k5, k6, k7, k8, k9, k10, kf⟩ := row11 R106.out; clear hb B5 R8 R10) | (go_at_call 14; refine (K14.out _).mono ?_; rintro en w7 ⟨rfl, hb⟩; have B7 : Hid (Below w.heap.size w w7) := below_more B6.out hb B6.out.size; have R87 : Hid (Row w7 w3.heap.size 28 [.int .i64 2, .string t, .int .i64 n, .int .u64 0, .string ⟨#[]⟩, .int .i64 0, .int .i64 0, .int .i64 0, .int .i64 0, .slice none 0 0, .slice none 0 0]) := R86.out.below hb R86.out.lt; have R107 : Hid (Row w7 w4.heap.size 28 [.int .i64 2, .string ⟨#[105, 110, 116]⟩, .int .i64 n, .int .u64 0, .string ⟨#[]⟩, .int .i64 0, .int .i64 0, .int .i64 0, .int .i64 0, .slice none 0 0, .slice none 0 0]) := R106.out.below hb R106.out.lt; obtain ⟨k0, k1, k2, k3, k4, k5, k6, k7, k8, k9, k10, kf⟩ := row11 R107.out; clear hb B6 R86 R106))
  all_goals
    obtain ⟨p0, p1, p2, p3, p4, p5, p6, p7, p8, p9, p10, pf⟩ := row11 R87.out; have pl := R87.out.lt
    obtain ⟨q0, q1, q2, q3, q4, q5, q6, q7, q8, q9, q10, qf⟩ := row11 R107.out; have ql := R107.out.lt
    go_wp2_with (first
    | (go_at_call 32; refine (K32c.out _).mono ?_; rintro en w10 ⟨rfl, hb⟩; have B10 : Hid (Below w.heap.size w w10) := below_more B7.out hb B7.out.size; clear hb B7 K32c R87 R107 p0 p1 p2 p3 p4 p5 p6 p7 p8 p9 p10 pf pl q0 q1 q2 q3 q4 q5 q6 q7 q8 q9 q10 qf ql)
    | (go_at_call 20; have ord := B10.out.size; refine (Kc3.out _).mono ?_; rintro en w11 ⟨rfl, hb⟩; have B11 : Hid (Below w.heap.size w w11) := below_more B10.out hb B10.out.size; clear hb ord B10 Kc3)
    | (go_at_call 20; have ord := B11.out.size; refine (Kc4.out _).mono ?_; rintro en w12 ⟨rfl, hb⟩
       have B12 : Hid (Below w.heap.size w w12) := below_more (B11.out.alloc B11.out.size _) hb (by simp <;> omega)
       have R17 : Hid (Row w12 w11.heap.size 28 [.int .i64 3, .string t, .int .i64 0, .int .u64 F, .string ⟨#[]⟩, .int .i64 0, .int .i64 0, .int .i64 0, .int .i64 0, .slice none 0 0, .slice none 0 0]) := (Row.made w11 28 [.int .i64 3, .string t, .int .i64 0, .int .u64 F, .string ⟨#[]⟩, .int .i64 0, .int .i64 0, .int .i64 0, .int .i64 0, .slice none 0 0, .slice none 0 0]).below hb (Row.made w11 28 [.int .i64 3, .string t, .int .i64 0, .int .u64 F, .string ⟨#[]⟩, .int .i64 0, .int .i64 0, .int .i64 0, .int .i64 0, .slice none 0 0, .slice none 0 0]).lt
       clear hb ord B11 Kc4)
    | (go_at_call 20; have ord := B12.out.size; refine (Kc5.out _).mono ?_; rintro en w13 ⟨rfl, hb⟩
       have B13 : Hid (Below w.heap.size w w13) := below_more (B12.out.alloc B12.out.size _) hb (by simp <;> omega)
       replace R17 : Hid (Row w13 w11.heap.size 28 [.int .i64 3, .string t, .int .i64 0, .int .u64 F, .string ⟨#[]⟩, .int .i64 0, .int .i64 0, .int .i64 0, .int .i64 0, .slice none 0 0, .slice none 0 0]) := (R17.out.alloc _).below hb (R17.out.alloc _).lt
       have R19 : Hid (Row w13 w12.heap.size 28 [.int .i64 2, .string ⟨#[105, 110, 116]⟩, .int .i64 sm, .int .u64 0, .string ⟨#[]⟩, .int .i64 0, .int .i64 0, .int .i64 0, .int .i64 0, .slice none 0 0, .slice none 0 0]) := (Row.made w12 28 [.int .i64 2, .string ⟨#[105, 110, 116]⟩, .int .i64 sm, .int .u64 0, .string ⟨#[]⟩, .int .i64 0, .int .i64 0, .int .i64 0, .int .i64 0, .slice none 0 0, .slice none 0 0]).below hb (Row.made w12 28 [.int .i64 2, .string ⟨#[105, 110, 116]⟩, .int .i64 sm, .int .u64 0, .string ⟨#[]⟩, .int .i64 0, .int .i64 0, .int .i64 0, .int .i64 0, .slice none 0 0, .slice none 0 0]).lt
       obtain ⟨x0, x1, x2, x3, x4, x5, x6, x7, x8, x9, x10, xf⟩ := row11 R17.out; have xl := R17.out.lt
       obtain ⟨y0, y1, y2, y3, y4, y5, y6, y7, y8, y9, y10, yf⟩ := row11 R19.out; have yl := R19.out.lt
       clear hb ord B12 Kc5 R17 R19))
    all_goals
      go_returns
      exact ⟨rfl, B13.out.alloc B13.out.size _⟩
set_option maxRecDepth 200000 in
set_option maxHeartbeats 8000000 in
theorem back_pos_nan (n : Int) (t : ByteArray) (f F r sm : Int) (s : ByteArray) (w : World) (hG : Glob w) (hs : 0 ≤ n) (hrem : n.tmod 9007199254740992 = sm) (hrem2 : n % 9007199254740992 = sm) (hx : decide (18437736874454810624 < IntKind.u64.wrap (f * 2)) = true) (hr : r = 9221120237041090561)
    (h32 : ∀ w, Calls Tryz.prog 32 #[.int .i64 n] w fun e w' => e = .returned (.agg #[.int .i64 2, .string ⟨#[105, 110, 116]⟩, .int .i64 n, .int .u64 0, .string ⟨#[]⟩, .int .i64 0, .int .i64 0, .int .i64 0, .int .i64 0, .slice none 0 0, .slice none 0 0]) ∧ Below w.heap.size w w')
    (c1 : ∀ w, Calls Tryz.prog 20 #[.int .i64 2, .string t, .agg #[.int .i64 2, .string ⟨#[105, 110, 116]⟩, .int .i64 n, .int .u64 0, .string ⟨#[]⟩, .int .i64 0, .int .i64 0, .int .i64 0, .int .i64 0, .slice none 0 0, .slice none 0 0]] w fun e w' => e = .returned (.tuple #[.agg #[.int .i64 2, .string t, .int .i64 n, .int .u64 0, .string ⟨#[]⟩, .int .i64 0, .int .i64 0, .int .i64 0, .int .i64 0, .slice none 0 0, .slice none 0 0], .nilIface]) ∧ Below w.heap.size w w')
    (c2 : ∀ w, Calls Tryz.prog 20 #[.int .i64 2, .string ⟨#[105, 110, 116]⟩, .agg #[.int .i64 2, .string t, .int .i64 n, .int .u64 0, .string ⟨#[]⟩, .int .i64 0, .int .i64 0, .int .i64 0, .int .i64 0, .slice none 0 0, .slice none 0 0]] w fun e w' => e = .returned (.tuple #[.agg #[.int .i64 2, .string ⟨#[105, 110, 116]⟩, .int .i64 n, .int .u64 0, .string ⟨#[]⟩, .int .i64 0, .int .i64 0, .int .i64 0, .int .i64 0, .slice none 0 0, .slice none 0 0], .nilIface]) ∧ Below w.heap.size w w')
    (h14 : ∀ w, Calls Tryz.prog 14 #[.agg #[.int .i64 2, .string ⟨#[105, 110, 116]⟩, .int .i64 n, .int .u64 0, .string ⟨#[]⟩, .int .i64 0, .int .i64 0, .int .i64 0, .int .i64 0, .slice none 0 0, .slice none 0 0], .agg #[.int .i64 2, .string ⟨#[105, 110, 116]⟩, .int .i64 n, .int .u64 0, .string ⟨#[]⟩, .int .i64 0, .int .i64 0, .int .i64 0, .int .i64 0, .slice none 0 0, .slice none 0 0]] w fun e w' => e = .returned (.bool true) ∧ Below w.heap.size w w')
    (hsh : ∀ w', Below w.heap.size w w' → Calls Tryz.prog 33 #[.agg #[.int .i64 2, .string ⟨#[105, 110, 116]⟩, .int .i64 n, .int .u64 0, .string ⟨#[]⟩, .int .i64 0, .int .i64 0, .int .i64 0, .int .i64 0, .slice none 0 0, .slice none 0 0]] w' fun e w'' => e = .returned (.string s) ∧ Below w'.heap.size w' w'')
    (h24 : ∀ w, Calls Tryz.prog 24 #[.string s] w fun e w' => e = .returned (.tuple #[.agg #[.int .i64 2, .string ⟨#[105, 110, 116]⟩, .int .i64 n, .int .u64 0, .string ⟨#[]⟩, .int .i64 0, .int .i64 0, .int .i64 0, .int .i64 0, .slice none 0 0, .slice none 0 0], .bool true]) ∧ Below w.heap.size w w')
    (h32b : ∀ w, Calls Tryz.prog 32 #[.int .i64 sm] w fun e w' => e = .returned (.agg #[.int .i64 2, .string ⟨#[105, 110, 116]⟩, .int .i64 sm, .int .u64 0, .string ⟨#[]⟩, .int .i64 0, .int .i64 0, .int .i64 0, .int .i64 0, .slice none 0 0, .slice none 0 0]) ∧ Below w.heap.size w w')
    (c3 : ∀ w, Calls Tryz.prog 20 #[.int .i64 3, .string t, .agg #[.int .i64 2, .string ⟨#[105, 110, 116]⟩, .int .i64 sm, .int .u64 0, .string ⟨#[]⟩, .int .i64 0, .int .i64 0, .int .i64 0, .int .i64 0, .slice none 0 0, .slice none 0 0]] w fun e w' => e = .returned (.tuple #[.agg #[.int .i64 3, .string t, .int .i64 0, .int .u64 F, .string ⟨#[]⟩, .int .i64 0, .int .i64 0, .int .i64 0, .int .i64 0, .slice none 0 0, .slice none 0 0], .nilIface]) ∧ Below w.heap.size w w')
    (c4 : ∀ w, Calls Tryz.prog 20 #[.int .i64 2, .string ⟨#[105, 110, 116]⟩, .agg #[.int .i64 3, .string t, .int .i64 0, .int .u64 F, .string ⟨#[]⟩, .int .i64 0, .int .i64 0, .int .i64 0, .int .i64 0, .slice none 0 0, .slice none 0 0]] w fun e w' => e = .returned (.tuple #[.agg #[.int .i64 2, .string ⟨#[105, 110, 116]⟩, .int .i64 sm, .int .u64 0, .string ⟨#[]⟩, .int .i64 0, .int .i64 0, .int .i64 0, .int .i64 0, .slice none 0 0, .slice none 0 0], .nilIface]) ∧ Below w.heap.size w w')
    (c5 : ∀ w, Calls Tryz.prog 20 #[.int .i64 3, .string ⟨#[102, 108, 111, 97, 116]⟩, .agg #[.int .i64 3, .string t, .int .i64 0, .int .u64 f, .string ⟨#[]⟩, .int .i64 0, .int .i64 0, .int .i64 0, .int .i64 0, .slice none 0 0, .slice none 0 0]] w fun e w' => e = .returned (.tuple #[.agg #[.int .i64 3, .string ⟨#[102, 108, 111, 97, 116]⟩, .int .i64 0, .int .u64 r, .string ⟨#[]⟩, .int .i64 0, .int .i64 0, .int .i64 0, .int .i64 0, .slice none 0 0, .slice none 0 0], .nilIface]) ∧ Below w.heap.size w w') :
    Calls Tryz.prog 10 #[.int .i64 n, .string t, .int .u64 f] w fun e w' => e = .returned (.bool true) ∧ Below w.heap.size w w' := by
  have h11 := Lib.hid fun w (h : Glob w) => known_any w h
  have HG := Lib.hid hG
  have K32 := Lib.hid h32
  have K32b := Lib.hid h32
  have K32c := Lib.hid h32b
  have Kc1 := Lib.hid c1
  have Kc2 := Lib.hid c2
  have Kc3 := Lib.hid c3
  have Kc4 := Lib.hid c4
  have Kc5 := Lib.hid c5
  have K14 := Lib.hid h14
  have Ksh := Lib.hid hsh
  have K24 := Lib.hid h24
  clear h32 c1 c2 h14 hsh h24 h32b c3 c4 c5 hG
  subst hr
  go_enter Tryz.func10, Tryz.ntmps10
  go_wp2_with (first
    | (go_at_call 11; refine (h11.out _ HG.out).mono ?_; rintro en w1 ⟨rfl, hb⟩; have B1 := Lib.hid hb; clear hb h11 HG)
    | (go_at_call 32; refine (K32.out _).mono ?_; rintro en w2 ⟨rfl, hb⟩; have B2 : Hid (Below w.heap.size w w2) := below_more B1.out hb B1.out.size; clear hb B1 K32)
    | (go_at_call 20; have ord := B2.out.size; refine (Kc1.out _).mono ?_; rintro en w3 ⟨rfl, hb⟩; have B3 : Hid (Below w.heap.size w w3) := below_more B2.out hb B2.out.size; clear hb ord B2 Kc1)
    | (go_at_call 20; have ord := B3.out.size; refine (Kc2.out _).mono ?_; rintro en w4 ⟨rfl, hb⟩
       have B4 : Hid (Below w.heap.size w w4) := below_more (B3.out.alloc B3.out.size _) hb (by simp <;> omega)
       have R8 : Hid (Row w4 w3.heap.size 28 [.int .i64 2, .string t, .int .i64 n, .int .u64 0, .string ⟨#[]⟩, .int .i64 0, .int .i64 0, .int .i64 0, .int .i64 0, .slice none 0 0, .slice none 0 0]) := (Row.made w3 28 [.int .i64 2, .string t, .int .i64 n, .int .u64 0, .string ⟨#[]⟩, .int .i64 0, .int .i64 0, .int .i64 0, .int .i64 0, .slice none 0 0, .slice none 0 0]).below hb (Row.made w3 28 [.int .i64 2, .string t, .int .i64 n, .int .u64 0, .string ⟨#[]⟩, .int .i64 0, .int .i64 0, .int .i64 0, .int .i64 0, .slice none 0 0, .slice none 0 0]).lt
       clear hb ord B3 Kc2))
  obtain ⟨w5, R8', R10, B5, e⟩ : ∃ w5, Row w5 w3.heap.size 28 [.int .i64 2, .string t, .int .i64 n, .int .u64 0, .string ⟨#[]⟩, .int .i64 0, .int .i64 0, .int .i64 0, .int .i64 0, .slice none 0 0, .slice none 0 0] ∧ Row w5 w4.heap.size 28 [.int .i64 2, .string ⟨#[105, 110, 116]⟩, .int .i64 n, .int .u64 0, .string ⟨#[]⟩, .int .i64 0, .int .i64 0, .int .i64 0, .int .i64 0, .slice none 0 0, .slice none 0 0] ∧ Below w.heap.size w w5 ∧ w4.alloc (.cells ([.int .i64 2, .string ⟨#[105, 110, 116]⟩, .int .i64 n, .int .u64 0, .string ⟨#[]⟩, .int .i64 0, .int .i64 0, .int .i64 0, .int .i64 0, .slice none 0 0, .slice none 0 0] : List Value).toArray 28) = w5 :=
    ⟨_, R8.out.alloc _, Row.made w4 28 _, B4.out.alloc B4.out.size _, rfl⟩
  rw [e]
  clear e R8
  have R8 := Lib.hid R8'
  clear R8'
  obtain ⟨k0, k1, k2, k3, k4, k5, k6, k7, k8, k9, k10, kf⟩ := row11 R10
  replace R10 := Lib.hid R10
  replace B5 := Lib.hid B5
  clear B4
  have nk := World.new_ne _ _ k0
  go_region_held3 (fun w' => w'.cell? ⟨w4.heap.size, 0, none⟩ = some (.int .i64 2) ∧ w'.cell? ⟨w4.heap.size, 1, none⟩ = some (.string ⟨#[105, 110, 116]⟩) ∧ w'.cell? ⟨w4.heap.size, 2, none⟩ = some (.int .i64 n) ∧ w'.cell? ⟨w4.heap.size, 3, none⟩ = some (.int .u64 0) ∧ w'.cell? ⟨w4.heap.size, 4, none⟩ = some (.string ⟨#[]⟩) ∧ w'.cell? ⟨w4.heap.size, 5, none⟩ = some (.int .i64 0) ∧ w'.cell? ⟨w4.heap.size, 6, none⟩ = some (.int .i64 0) ∧ w'.cell? ⟨w4.heap.size, 7, none⟩ = some (.int .i64 0) ∧ w'.cell? ⟨w4.heap.size, 8, none⟩ = some (.int .i64 0) ∧ w'.cell? ⟨w4.heap.size, 9, none⟩ = some (.slice none 0 0) ∧ w'.cell? ⟨w4.heap.size, 10, none⟩ = some (.slice none 0 0)) (first | go_keep | exact ⟨k0, k1, k2, k3, k4, k5, k6, k7, k8, k9, k10⟩) (first | (go_at_call 32; refine (K32b.out _).mono ?_; rintro en w6 ⟨rfl, hb⟩; have B6 : Hid (Below w.heap.size w w6) := below_more (below_drew B5.out) hb B5.out.size; have R86 : Hid (Row w6 w3.heap.size 28 [.int .i64 2, .string t, .int .i64 n, .int .u64 0, .string ⟨#[]⟩, .int .i64 0, .int .i64 0, .int .i64 0, .int .i64 0, .slice none 0 0, .slice none 0 0]) := R8.out.drew.below hb R8.out.drew.lt; have R106 : Hid (Row w6 w4.heap.size 28 [.int .i64 2, .string ⟨#[105, 110, 116]⟩, .int .i64 n, .int .u64 0, .string ⟨#[]⟩, .int .i64 0, .int .i64 0, .int .i64 0, .int .i64 0, .slice none 0 0, .slice none 0 0]) := R10.out.drew.below hb R10.out.drew.lt; obtain ⟨k0, k1, k2, k3, k4, k5, k6, k7, k8, k9, k10, kf⟩ := row11 R106.out; clear hb B5 R8 R10) | (go_at_call 14; refine (K14.out _).mono ?_; rintro en w7 ⟨rfl, hb⟩; have B7 : Hid (Below w.heap.size w w7) := below_more B6.out hb B6.out.size; have R87 : Hid (Row w7 w3.heap.size 28 [.int .i64 2, .string t, .int .i64 n, .int .u64 0, .string ⟨#[]⟩, .int .i64 0, .int .i64 0, .int .i64 0, .int .i64 0, .slice none 0 0, .slice none 0 0]) := R86.out.below hb R86.out.lt; have R107 : Hid (Row w7 w4.heap.size 28 [.int .i64 2, .string ⟨#[105, 110, 116]⟩, .int .i64 n, .int .u64 0, .string ⟨#[]⟩, .int .i64 0, .int .i64 0, .int .i64 0, .int .i64 0, .slice none 0 0, .slice none 0 0]) := R106.out.below hb R106.out.lt; obtain ⟨k0, k1, k2, k3, k4, k5, k6, k7, k8, k9, k10, kf⟩ := row11 R107.out; clear hb B6 R86 R106))
  all_goals
    obtain ⟨p0, p1, p2, p3, p4, p5, p6, p7, p8, p9, p10, pf⟩ := row11 R87.out; have pl := R87.out.lt
    obtain ⟨q0, q1, q2, q3, q4, q5, q6, q7, q8, q9, q10, qf⟩ := row11 R107.out; have ql := R107.out.lt
    go_wp2_with (first
    | (go_at_call 33; refine (Ksh.out _ B7.out).mono ?_; rintro en w8 ⟨rfl, hb⟩; have B8 : Hid (Below w.heap.size w w8) := below_more B7.out hb B7.out.size; clear hb B7 R87 R107 p0 p1 p2 p3 p4 p5 p6 p7 p8 p9 p10 pf pl q0 q1 q2 q3 q4 q5 q6 q7 q8 q9 q10 qf ql)
    | (go_at_call 24; refine (K24.out _).mono ?_; rintro en w9 ⟨rfl, hb⟩; have B9 : Hid (Below w.heap.size w w9) := below_more B8.out hb B8.out.size; clear hb B8)
    | (go_at_call 32; refine (K32c.out _).mono ?_; rintro en w10 ⟨rfl, hb⟩; have B10 : Hid (Below w.heap.size w w10) := below_more (B9.out.alloc B9.out.size _) hb (by have := B9.out.size; simp <;> omega); clear hb B9 K32c)
    | (go_at_call 20; have ord := B10.out.size; refine (Kc3.out _).mono ?_; rintro en w11 ⟨rfl, hb⟩; have B11 : Hid (Below w.heap.size w w11) := below_more B10.out hb B10.out.size; clear hb ord B10 Kc3)
    | (go_at_call 20; have ord := B11.out.size; refine (Kc4.out _).mono ?_; rintro en w12 ⟨rfl, hb⟩
       have B12 : Hid (Below w.heap.size w w12) := below_more (B11.out.alloc B11.out.size _) hb (by simp <;> omega)
       have R17 : Hid (Row w12 w11.heap.size 28 [.int .i64 3, .string t, .int .i64 0, .int .u64 F, .string ⟨#[]⟩, .int .i64 0, .int .i64 0, .int .i64 0, .int .i64 0, .slice none 0 0, .slice none 0 0]) := (Row.made w11 28 [.int .i64 3, .string t, .int .i64 0, .int .u64 F, .string ⟨#[]⟩, .int .i64 0, .int .i64 0, .int .i64 0, .int .i64 0, .slice none 0 0, .slice none 0 0]).below hb (Row.made w11 28 [.int .i64 3, .string t, .int .i64 0, .int .u64 F, .string ⟨#[]⟩, .int .i64 0, .int .i64 0, .int .i64 0, .int .i64 0, .slice none 0 0, .slice none 0 0]).lt
       clear hb ord B11 Kc4)
    | (go_at_call 20; have ord := B12.out.size; refine (Kc5.out _).mono ?_; rintro en w13 ⟨rfl, hb⟩
       have B13 : Hid (Below w.heap.size w w13) := below_more (B12.out.alloc B12.out.size _) hb (by simp <;> omega)
       replace R17 : Hid (Row w13 w11.heap.size 28 [.int .i64 3, .string t, .int .i64 0, .int .u64 F, .string ⟨#[]⟩, .int .i64 0, .int .i64 0, .int .i64 0, .int .i64 0, .slice none 0 0, .slice none 0 0]) := (R17.out.alloc _).below hb (R17.out.alloc _).lt
       have R19 : Hid (Row w13 w12.heap.size 28 [.int .i64 2, .string ⟨#[105, 110, 116]⟩, .int .i64 sm, .int .u64 0, .string ⟨#[]⟩, .int .i64 0, .int .i64 0, .int .i64 0, .int .i64 0, .slice none 0 0, .slice none 0 0]) := (Row.made w12 28 [.int .i64 2, .string ⟨#[105, 110, 116]⟩, .int .i64 sm, .int .u64 0, .string ⟨#[]⟩, .int .i64 0, .int .i64 0, .int .i64 0, .int .i64 0, .slice none 0 0, .slice none 0 0]).below hb (Row.made w12 28 [.int .i64 2, .string ⟨#[105, 110, 116]⟩, .int .i64 sm, .int .u64 0, .string ⟨#[]⟩, .int .i64 0, .int .i64 0, .int .i64 0, .int .i64 0, .slice none 0 0, .slice none 0 0]).lt
       obtain ⟨x0, x1, x2, x3, x4, x5, x6, x7, x8, x9, x10, xf⟩ := row11 R17.out; have xl := R17.out.lt
       obtain ⟨y0, y1, y2, y3, y4, y5, y6, y7, y8, y9, y10, yf⟩ := row11 R19.out; have yl := R19.out.lt
       clear hb ord B12 Kc5 R17 R19))
    all_goals
      go_returns
      exact ⟨rfl, B13.out.alloc B13.out.size _⟩
set_option maxRecDepth 200000 in
set_option maxHeartbeats 8000000 in
theorem back_pos (n : Int) (t : ByteArray) (f F r sm : Int) (s : ByteArray) (w : World) (hG : Glob w) (hs : 0 ≤ n) (hrem : n.tmod 9007199254740992 = sm) (hrem2 : n % 9007199254740992 = sm) (hx : decide (18437736874454810624 < IntKind.u64.wrap (f * 2)) = false) (hr : r = f)
    (h32 : ∀ w, Calls Tryz.prog 32 #[.int .i64 n] w fun e w' => e = .returned (.agg #[.int .i64 2, .string ⟨#[105, 110, 116]⟩, .int .i64 n, .int .u64 0, .string ⟨#[]⟩, .int .i64 0, .int .i64 0, .int .i64 0, .int .i64 0, .slice none 0 0, .slice none 0 0]) ∧ Below w.heap.size w w')
    (c1 : ∀ w, Calls Tryz.prog 20 #[.int .i64 2, .string t, .agg #[.int .i64 2, .string ⟨#[105, 110, 116]⟩, .int .i64 n, .int .u64 0, .string ⟨#[]⟩, .int .i64 0, .int .i64 0, .int .i64 0, .int .i64 0, .slice none 0 0, .slice none 0 0]] w fun e w' => e = .returned (.tuple #[.agg #[.int .i64 2, .string t, .int .i64 n, .int .u64 0, .string ⟨#[]⟩, .int .i64 0, .int .i64 0, .int .i64 0, .int .i64 0, .slice none 0 0, .slice none 0 0], .nilIface]) ∧ Below w.heap.size w w')
    (c2 : ∀ w, Calls Tryz.prog 20 #[.int .i64 2, .string ⟨#[105, 110, 116]⟩, .agg #[.int .i64 2, .string t, .int .i64 n, .int .u64 0, .string ⟨#[]⟩, .int .i64 0, .int .i64 0, .int .i64 0, .int .i64 0, .slice none 0 0, .slice none 0 0]] w fun e w' => e = .returned (.tuple #[.agg #[.int .i64 2, .string ⟨#[105, 110, 116]⟩, .int .i64 n, .int .u64 0, .string ⟨#[]⟩, .int .i64 0, .int .i64 0, .int .i64 0, .int .i64 0, .slice none 0 0, .slice none 0 0], .nilIface]) ∧ Below w.heap.size w w')
    (h14 : ∀ w, Calls Tryz.prog 14 #[.agg #[.int .i64 2, .string ⟨#[105, 110, 116]⟩, .int .i64 n, .int .u64 0, .string ⟨#[]⟩, .int .i64 0, .int .i64 0, .int .i64 0, .int .i64 0, .slice none 0 0, .slice none 0 0], .agg #[.int .i64 2, .string ⟨#[105, 110, 116]⟩, .int .i64 n, .int .u64 0, .string ⟨#[]⟩, .int .i64 0, .int .i64 0, .int .i64 0, .int .i64 0, .slice none 0 0, .slice none 0 0]] w fun e w' => e = .returned (.bool true) ∧ Below w.heap.size w w')
    (hsh : ∀ w', Below w.heap.size w w' → Calls Tryz.prog 33 #[.agg #[.int .i64 2, .string ⟨#[105, 110, 116]⟩, .int .i64 n, .int .u64 0, .string ⟨#[]⟩, .int .i64 0, .int .i64 0, .int .i64 0, .int .i64 0, .slice none 0 0, .slice none 0 0]] w' fun e w'' => e = .returned (.string s) ∧ Below w'.heap.size w' w'')
    (h24 : ∀ w, Calls Tryz.prog 24 #[.string s] w fun e w' => e = .returned (.tuple #[.agg #[.int .i64 2, .string ⟨#[105, 110, 116]⟩, .int .i64 n, .int .u64 0, .string ⟨#[]⟩, .int .i64 0, .int .i64 0, .int .i64 0, .int .i64 0, .slice none 0 0, .slice none 0 0], .bool true]) ∧ Below w.heap.size w w')
    (h32b : ∀ w, Calls Tryz.prog 32 #[.int .i64 sm] w fun e w' => e = .returned (.agg #[.int .i64 2, .string ⟨#[105, 110, 116]⟩, .int .i64 sm, .int .u64 0, .string ⟨#[]⟩, .int .i64 0, .int .i64 0, .int .i64 0, .int .i64 0, .slice none 0 0, .slice none 0 0]) ∧ Below w.heap.size w w')
    (c3 : ∀ w, Calls Tryz.prog 20 #[.int .i64 3, .string t, .agg #[.int .i64 2, .string ⟨#[105, 110, 116]⟩, .int .i64 sm, .int .u64 0, .string ⟨#[]⟩, .int .i64 0, .int .i64 0, .int .i64 0, .int .i64 0, .slice none 0 0, .slice none 0 0]] w fun e w' => e = .returned (.tuple #[.agg #[.int .i64 3, .string t, .int .i64 0, .int .u64 F, .string ⟨#[]⟩, .int .i64 0, .int .i64 0, .int .i64 0, .int .i64 0, .slice none 0 0, .slice none 0 0], .nilIface]) ∧ Below w.heap.size w w')
    (c4 : ∀ w, Calls Tryz.prog 20 #[.int .i64 2, .string ⟨#[105, 110, 116]⟩, .agg #[.int .i64 3, .string t, .int .i64 0, .int .u64 F, .string ⟨#[]⟩, .int .i64 0, .int .i64 0, .int .i64 0, .int .i64 0, .slice none 0 0, .slice none 0 0]] w fun e w' => e = .returned (.tuple #[.agg #[.int .i64 2, .string ⟨#[105, 110, 116]⟩, .int .i64 sm, .int .u64 0, .string ⟨#[]⟩, .int .i64 0, .int .i64 0, .int .i64 0, .int .i64 0, .slice none 0 0, .slice none 0 0], .nilIface]) ∧ Below w.heap.size w w')
    (c5 : ∀ w, Calls Tryz.prog 20 #[.int .i64 3, .string ⟨#[102, 108, 111, 97, 116]⟩, .agg #[.int .i64 3, .string t, .int .i64 0, .int .u64 f, .string ⟨#[]⟩, .int .i64 0, .int .i64 0, .int .i64 0, .int .i64 0, .slice none 0 0, .slice none 0 0]] w fun e w' => e = .returned (.tuple #[.agg #[.int .i64 3, .string ⟨#[102, 108, 111, 97, 116]⟩, .int .i64 0, .int .u64 r, .string ⟨#[]⟩, .int .i64 0, .int .i64 0, .int .i64 0, .int .i64 0, .slice none 0 0, .slice none 0 0], .nilIface]) ∧ Below w.heap.size w w') :
    Calls Tryz.prog 10 #[.int .i64 n, .string t, .int .u64 f] w fun e w' => e = .returned (.bool true) ∧ Below w.heap.size w w' := by
  have h11 := Lib.hid fun w (h : Glob w) => known_any w h
  have HG := Lib.hid hG
  have K32 := Lib.hid h32
  have K32b := Lib.hid h32
  have K32c := Lib.hid h32b
  have Kc1 := Lib.hid c1
  have Kc2 := Lib.hid c2
  have Kc3 := Lib.hid c3
  have Kc4 := Lib.hid c4
  have Kc5 := Lib.hid c5
  have K14 := Lib.hid h14
  have Ksh := Lib.hid hsh
  have K24 := Lib.hid h24
  clear h32 c1 c2 h14 hsh h24 h32b c3 c4 c5 hG
  subst hr
  go_enter Tryz.func10, Tryz.ntmps10
  go_wp2_with (first
    | (go_at_call 11; refine (h11.out _ HG.out).mono ?_; rintro en w1 ⟨rfl, hb⟩; have B1 := Lib.hid hb; clear hb h11 HG)
    | (go_at_call 32; refine (K32.out _).mono ?_; rintro en w2 ⟨rfl, hb⟩; have B2 : Hid (Below w.heap.size w w2) := below_more B1.out hb B1.out.size; clear hb B1 K32)
    | (go_at_call 20; have ord := B2.out.size; refine (Kc1.out _).mono ?_; rintro en w3 ⟨rfl, hb⟩; have B3 : Hid (Below w.heap.size w w3) := below_more B2.out hb B2.out.size; clear hb ord B2 Kc1)
    | (go_at_call 20; have ord := B3.out.size; refine (Kc2.out _).mono ?_; rintro en w4 ⟨rfl, hb⟩
       have B4 : Hid (Below w.heap.size w w4) := below_more (B3.out.alloc B3.out.size _) hb (by simp <;> omega)
       have R8 : Hid (Row w4 w3.heap.size 28 [.int .i64 2, .string t, .int .i64 n, .int .u64 0, .string ⟨#[]⟩, .int .i64 0, .int .i64 0, .int .i64 0, .int .i64 0, .slice none 0 0, .slice none 0 0]) := (Row.made w3 28 [.int .i64 2, .string t, .int .i64 n, .int .u64 0, .string ⟨#[]⟩, .int .i64 0, .int .i64 0, .int .i64 0, .int .i64 0, .slice none 0 0, .slice none 0 0]).below hb (Row.made w3 28 [.int .i64 2, .string t, .int .i64 n, .int .u64 0, .string ⟨#[]⟩, .int .i64 0, .int .i64 0, .int .i64 0, .int .i64 0, .slice none 0 0, .slice none 0 0]).lt
       clear hb ord B3 Kc2))
  obtain ⟨w5, R8', R10, B5, e⟩ : ∃ w5, Row w5 w3.heap.size 28 [.int .i64 2, .string t, .int .i64 n, .int .u64 0, .string ⟨#[]⟩, .int .i64 0, .int .i64 0, .int .i64 0, .int .i64 0, .slice none 0 0, .slice none 0 0] ∧ Row w5 w4.heap.size 28 [.int .i64 2, .string ⟨#[105, 110, 116]⟩, .int .i64 n, .int .u64 0, .string ⟨#[]⟩, .int .i64 0, .int .i64 0, .int .i64 0, .int .i64 0, .slice none 0 0, .slice none 0 0] ∧ Below w.heap.size w w5 ∧ w4.alloc (.cells ([.int .i64 2, .string ⟨#[105, 110, 116]⟩, .int .i64 n, .int .u64 0, .string ⟨#[]⟩, .int .i64 0, .int .i64 0, .int .i64 0, .int .i64 0, .slice none 0 0, .slice none 0 0] : List Value).toArray 28) = w5 :=
    ⟨_, R8.out.alloc _, Row.made w4 28 _, B4.out.alloc B4.out.size _, rfl⟩
  rw [e]
  clear e R8
  have R8 := Lib.hid R8'
  clear R8'
  obtain ⟨k0, k1, k2, k3, k4, k5, k6, k7, k8, k9, k10, kf⟩ := row11 R10
  replace R10 := Lib.hid R10
  replace B5 := Lib.hid B5
  clear B4
  have nk := World.new_ne _ _ k0
  go_region_held3 (fun w' => w'.cell? ⟨w4.heap.size, 0, none⟩ = some (.int .i64 2) ∧ w'.cell? ⟨w4.heap.size, 1, none⟩ = some (.string ⟨#[105, 110, 116]⟩) ∧ w'.cell? ⟨w4.heap.size, 2, none⟩ = some (.int .i64 n) ∧ w'.cell? ⟨w4.heap.size, 3, none⟩ = some (.int .u64 0) ∧ w'.cell? ⟨w4.heap.size, 4, none⟩ = some (.string ⟨#[]⟩) ∧ w'.cell? ⟨w4.heap.size, 5, none⟩ = some (.int .i64 0) ∧ w'.cell? ⟨w4.heap.size, 6, none⟩ = some (.int .i64 0) ∧ w'.cell? ⟨w4.heap.size, 7, none⟩ = some (.int .i64 0) ∧ w'.cell? ⟨w4.heap.size, 8, none⟩ = some (.int .i64 0) ∧ w'.cell? ⟨w4.heap.size, 9, none⟩ = some (.slice none 0 0) ∧ w'.cell? ⟨w4.heap.size, 10, none⟩ = some (.slice none 0 0)) (first | go_keep | exact ⟨k0, k1, k2, k3, k4, k5, k6, k7, k8, k9, k10⟩) (first | (go_at_call 32; refine (K32b.out _).mono ?_; rintro en w6 ⟨rfl, hb⟩; have B6 : Hid (Below w.heap.size w w6) := below_more (below_drew B5.out) hb B5.out.size; have R86 : Hid (Row w6 w3.heap.size 28 [.int .i64 2, .string t, .int .i64 n, .int .u64 0, .string ⟨#[]⟩, .int .i64 0, .int .i64 0, .int .i64 0, .int .i64 0, .slice none 0 0, .slice none 0 0]) := R8.out.drew.below hb R8.out.drew.lt; have R106 : Hid (Row w6 w4.heap.size 28 [.int .i64 2, .string ⟨#[105, 110, 116]⟩, .int .i64 n, .int .u64 0, .string ⟨#[]⟩, .int .i64 0, .int .i64 0, .int .i64 0, .int .i64 0, .slice none 0 0, .slice none 0 0]) := R10.out.drew.below hb R10.out.drew.lt; obtain ⟨k0, k1, k2, k3, k4, k5, k6, k7, k8, k9, k10, kf⟩ := row11 R106.out; clear hb B5 R8 R10) | (go_at_call 14; refine (K14.out _).mono ?_; rintro en w7 ⟨rfl, hb⟩; have B7 : Hid (Below w.heap.size w w7) := below_more B6.out hb B6.out.size; have R87 : Hid (Row w7 w3.heap.size 28 [.int .i64 2, .string t, .int .i64 n, .int .u64 0, .string ⟨#[]⟩, .int .i64 0, .int .i64 0, .int .i64 0, .int .i64 0, .slice none 0 0, .slice none 0 0]) := R86.out.below hb R86.out.lt; have R107 : Hid (Row w7 w4.heap.size 28 [.int .i64 2, .string ⟨#[105, 110, 116]⟩, .int .i64 n, .int .u64 0, .string ⟨#[]⟩, .int .i64 0, .int .i64 0, .int .i64 0, .int .i64 0, .slice none 0 0, .slice none 0 0]) := R106.out.below hb R106.out.lt; obtain ⟨k0, k1, k2, k3, k4, k5, k6, k7, k8, k9, k10, kf⟩ := row11 R107.out; clear hb B6 R86 R106))
  all_goals
    obtain ⟨p0, p1, p2, p3, p4, p5, p6, p7, p8, p9, p10, pf⟩ := row11 R87.out; have pl := R87.out.lt
    obtain ⟨q0, q1, q2, q3, q4, q5, q6, q7, q8, q9, q10, qf⟩ := row11 R107.out; have ql := R107.out.lt
    go_wp2_with (first
    | (go_at_call 33; refine (Ksh.out _ B7.out).mono ?_; rintro en w8 ⟨rfl, hb⟩; have B8 : Hid (Below w.heap.size w w8) := below_more B7.out hb B7.out.size; clear hb B7 R87 R107 p0 p1 p2 p3 p4 p5 p6 p7 p8 p9 p10 pf pl q0 q1 q2 q3 q4 q5 q6 q7 q8 q9 q10 qf ql)
    | (go_at_call 24; refine (K24.out _).mono ?_; rintro en w9 ⟨rfl, hb⟩; have B9 : Hid (Below w.heap.size w w9) := below_more B8.out hb B8.out.size; clear hb B8)
    | (go_at_call 32; refine (K32c.out _).mono ?_; rintro en w10 ⟨rfl, hb⟩; have B10 : Hid (Below w.heap.size w w10) := below_more (B9.out.alloc B9.out.size _) hb (by have := B9.out.size; simp <;> omega); clear hb B9 K32c)
    | (go_at_call 20; have ord := B10.out.size; refine (Kc3.out _).mono ?_; rintro en w11 ⟨rfl, hb⟩; have B11 : Hid (Below w.heap.size w w11) := below_more B10.out hb B10.out.size; clear hb ord B10 Kc3)
    | (go_at_call 20; have ord := B11.out.size; refine (Kc4.out _).mono ?_; rintro en w12 ⟨rfl, hb⟩
       have B12 : Hid (Below w.heap.size w w12) := below_more (B11.out.alloc B11.out.size _) hb (by simp <;> omega)
       have R17 : Hid (Row w12 w11.heap.size 28 [.int .i64 3, .string t, .int .i64 0, .int .u64 F, .string ⟨#[]⟩, .int .i64 0, .int .i64 0, .int .i64 0, .int .i64 0, .slice none 0 0, .slice none 0 0]) := (Row.made w11 28 [.int .i64 3, .string t, .int .i64 0, .int .u64 F, .string ⟨#[]⟩, .int .i64 0, .int .i64 0, .int .i64 0, .int .i64 0, .slice none 0 0, .slice none 0 0]).below hb (Row.made w11 28 [.int .i64 3, .string t, .int .i64 0, .int .u64 F, .string ⟨#[]⟩, .int .i64 0, .int .i64 0, .int .i64 0, .int .i64 0, .slice none 0 0, .slice none 0 0]).lt
       clear hb ord B11 Kc4)
    | (go_at_call 20; have ord := B12.out.size; refine (Kc5.out _).mono ?_; rintro en w13 ⟨rfl, hb⟩
       have B13 : Hid (Below w.heap.size w w13) := below_more (B12.out.alloc B12.out.size _) hb (by simp <;> omega)
       replace R17 : Hid (Row w13 w11.heap.size 28 [.int .i64 3, .string t, .int .i64 0, .int .u64 F, .string ⟨#[]⟩, .int .i64 0, .int .i64 0, .int .i64 0, .int .i64 0, .slice none 0 0, .slice none 0 0]) := (R17.out.alloc _).below hb (R17.out.alloc _).lt
       have R19 : Hid (Row w13 w12.heap.size 28 [.int .i64 2, .string ⟨#[105, 110, 116]⟩, .int .i64 sm, .int .u64 0, .string ⟨#[]⟩, .int .i64 0, .int .i64 0, .int .i64 0, .int .i64 0, .slice none 0 0, .slice none 0 0]) := (Row.made w12 28 [.int .i64 2, .string ⟨#[105, 110, 116]⟩, .int .i64 sm, .int .u64 0, .string ⟨#[]⟩, .int .i64 0, .int .i64 0, .int .i64 0, .int .i64 0, .slice none 0 0, .slice none 0 0]).below hb (Row.made w12 28 [.int .i64 2, .string ⟨#[105, 110, 116]⟩, .int .i64 sm, .int .u64 0, .string ⟨#[]⟩, .int .i64 0, .int .i64 0, .int .i64 0, .int .i64 0, .slice none 0 0, .slice none 0 0]).lt
       obtain ⟨x0, x1, x2, x3, x4, x5, x6, x7, x8, x9, x10, xf⟩ := row11 R17.out; have xl := R17.out.lt
       obtain ⟨y0, y1, y2, y3, y4, y5, y6, y7, y8, y9, y10, yf⟩ := row11 R19.out; have yl := R19.out.lt
       clear hb ord B12 Kc5 R17 R19))
    all_goals
      go_returns
      exact ⟨rfl, B13.out.alloc B13.out.size _⟩
end Go.Proofs.YtehakhplglhkdaaGreatDoor
