/- The walk of NumberOrder over floats. Conditions: what strconv reads of the package's variables. -/
import Derived.Test.YtehakhplglhkdaaGreatDoorOrder
namespace Go.Proofs.YtehakhplglhkdaaGreatDoor
set_option linter.unusedVariables false
open Go.RowKit

/-- The law's own words for a NaN's bits. -/
def NX (x : Int) : Bool := decide (18437736874454810624 < IntKind.u64.wrap (x * 2))

set_option maxRecDepth 200000 in
set_option maxHeartbeats 4000000 in
theorem order_3 (kind a b x y : Int) (t s u : ByteArray) (w : World) (hG : Glob w) (hP : ∀ w, Calls Tryz.prog 30 #[.int .i64 kind, .int .i64 3] w fun e w' => e = .returned (.int .i64 1) ∧ w' = w)
    (bl ab le mo ot : Bool) (S1 : ∀ w, Calls Tryz.prog 31 #[.string ⟨#[60]⟩, (mk 3 t a x s).val, (mk 3 t b y u).val] w fun e w' => e = .returned (.tuple #[.bool bl, .bool true]) ∧ Below w.heap.size w w') (S2 : ∀ w, Calls Tryz.prog 31 #[.string ⟨#[62]⟩, (mk 3 t a x s).val, (mk 3 t b y u).val] w fun e w' => e = .returned (.tuple #[.bool ab, .bool true]) ∧ Below w.heap.size w w') (S3 : ∀ w, Calls Tryz.prog 31 #[.string ⟨#[60, 61]⟩, (mk 3 t a x s).val, (mk 3 t b y u).val] w fun e w' => e = .returned (.tuple #[.bool le, .bool true]) ∧ Below w.heap.size w w') (S4 : ∀ w, Calls Tryz.prog 31 #[.string ⟨#[62, 61]⟩, (mk 3 t a x s).val, (mk 3 t b y u).val] w fun e w' => e = .returned (.tuple #[.bool mo, .bool true]) ∧ Below w.heap.size w w') (S5 : ∀ w, Calls Tryz.prog 31 #[.string ⟨#[60]⟩, (mk 3 t b y u).val, (mk 3 t a x s).val] w fun e w' => e = .returned (.tuple #[.bool ot, .bool true]) ∧ Below w.heap.size w w')
    (hcase : NX x = false ∧ NX y = false ∧ (bl = true ∧ ab = false ∨ bl = false ∧ ab = true ∨ bl = false ∧ ab = false) ∧ le = !ab ∧ mo = !bl ∧ ot = ab ∨ (NX x = true ∨ NX x = false ∧ NX y = true) ∧ bl = false ∧ ab = false ∧ le = false ∧ mo = false ∧ ot = false) :
    Calls Tryz.prog 8 #[.int .i64 kind, .string t, .int .i64 a, .int .i64 b, .int .u64 x, .int .u64 y, .string s, .string u] w fun e w' => e = .returned (.bool true) ∧ Below w.heap.size w w' := by
  have h11 := known_any w hG
  have HP := Lib.hid hP
  unfold NX at hcase
  rcases hcase with ⟨nx, ny, ⟨rfl, rfl⟩ | ⟨rfl, rfl⟩ | ⟨rfl, rfl⟩, rfl, rfl, rfl⟩ | ⟨nx | ⟨nx, ny⟩, rfl, rfl, rfl, rfl, rfl⟩
  all_goals
    have H1 := Lib.hid S1
    have H2 := Lib.hid S2
    have H3 := Lib.hid S3
    have H4 := Lib.hid S4
    have H5 := Lib.hid S5
    clear S1 S2 S3 S4 S5 hP hG
    unfold mk Dat.val at H1 H2 H3 H4 H5
    go_enter Tryz.func8, Tryz.ntmps8
    go_wp2_with (first
      | (go_at_call 11; refine h11.mono ?_; rintro en w1 ⟨rfl, hb⟩; have B1 := Lib.hid hb; clear hb h11)
      | (go_at_call 30; refine (HP.out _).mono ?_; rintro en wp ⟨rfl, hwp⟩; have hwq := hwp.symm; clear hwp; subst hwq; clear HP)
      | (go_at_call 31; have ord := B1.out.size; refine (H1.out _).mono ?_; rintro en w2 ⟨rfl, hb⟩
         have B2 : Hid (Below w.heap.size w w2) := below_more ((B1.out.alloc B1.out.size _).alloc (by have := B1.out.size; simp <;> omega) _) hb (by have := B1.out.size; simp <;> omega)
         have R2 : Hid (Row w2 w1.heap.size 28 (mk 3 t a x s).cells) := ((Row.made w1 28 (mk 3 t a x s).cells).alloc _).below hb (by simp <;> omega)
         have Q2 : Hid (Row w2 (w1.heap.size + 1) 28 (mk 3 t b y u).cells) := (row_at1 w1 _ 28 (mk 3 t b y u).cells).below hb (by simp)
         clear hb H1 B1 ord
         obtain ⟨p0, p1, p2, p3, p4, p5, p6, p7, p8, p9, p10, pf⟩ := row11 R2.out
         have pl := R2.out.lt
         simp only [mk] at p0 p1 p2 p3 p4 p5 p6 p7 p8 p9 p10
         obtain ⟨q0, q1, q2, q3, q4, q5, q6, q7, q8, q9, q10, qf⟩ := row11 Q2.out
         have ql := Q2.out.lt
         simp only [mk] at q0 q1 q2 q3 q4 q5 q6 q7 q8 q9 q10
         skip)
      | (go_at_call 31; have ord := B2.out.size; refine (H2.out _).mono ?_; rintro en w3 ⟨rfl, hb⟩
         have B3 : Hid (Below w.heap.size w w3) := below_more B2.out hb B2.out.size
         have R3 : Hid (Row w3 w1.heap.size 28 (mk 3 t a x s).cells) := R2.out.below hb R2.out.lt
         have Q3 : Hid (Row w3 (w1.heap.size + 1) 28 (mk 3 t b y u).cells) := Q2.out.below hb Q2.out.lt
         clear hb H2 B2 ord R2 Q2 p0 p1 p2 p3 p4 p5 p6 p7 p8 p9 p10 pf pl q0 q1 q2 q3 q4 q5 q6 q7 q8 q9 q10 qf ql
         obtain ⟨p0, p1, p2, p3, p4, p5, p6, p7, p8, p9, p10, pf⟩ := row11 R3.out
         have pl := R3.out.lt
         simp only [mk] at p0 p1 p2 p3 p4 p5 p6 p7 p8 p9 p10
         obtain ⟨q0, q1, q2, q3, q4, q5, q6, q7, q8, q9, q10, qf⟩ := row11 Q3.out
         have ql := Q3.out.lt
         simp only [mk] at q0 q1 q2 q3 q4 q5 q6 q7 q8 q9 q10
         skip)
      | (go_at_call 31; have ord := B3.out.size; refine (H3.out _).mono ?_; rintro en w4 ⟨rfl, hb⟩
         have B4 : Hid (Below w.heap.size w w4) := below_more B3.out hb B3.out.size
         have R4 : Hid (Row w4 w1.heap.size 28 (mk 3 t a x s).cells) := R3.out.below hb R3.out.lt
         have Q4 : Hid (Row w4 (w1.heap.size + 1) 28 (mk 3 t b y u).cells) := Q3.out.below hb Q3.out.lt
         clear hb H3 B3 ord R3 Q3 p0 p1 p2 p3 p4 p5 p6 p7 p8 p9 p10 pf pl q0 q1 q2 q3 q4 q5 q6 q7 q8 q9 q10 qf ql
         obtain ⟨p0, p1, p2, p3, p4, p5, p6, p7, p8, p9, p10, pf⟩ := row11 R4.out
         have pl := R4.out.lt
         simp only [mk] at p0 p1 p2 p3 p4 p5 p6 p7 p8 p9 p10
         obtain ⟨q0, q1, q2, q3, q4, q5, q6, q7, q8, q9, q10, qf⟩ := row11 Q4.out
         have ql := Q4.out.lt
         simp only [mk] at q0 q1 q2 q3 q4 q5 q6 q7 q8 q9 q10
         skip)
      | (go_at_call 31; have ord := B4.out.size; refine (H4.out _).mono ?_; rintro en w5 ⟨rfl, hb⟩
         have B5 : Hid (Below w.heap.size w w5) := below_more B4.out hb B4.out.size
         have R5 : Hid (Row w5 w1.heap.size 28 (mk 3 t a x s).cells) := R4.out.below hb R4.out.lt
         have Q5 : Hid (Row w5 (w1.heap.size + 1) 28 (mk 3 t b y u).cells) := Q4.out.below hb Q4.out.lt
         clear hb H4 B4 ord R4 Q4 p0 p1 p2 p3 p4 p5 p6 p7 p8 p9 p10 pf pl q0 q1 q2 q3 q4 q5 q6 q7 q8 q9 q10 qf ql
         obtain ⟨p0, p1, p2, p3, p4, p5, p6, p7, p8, p9, p10, pf⟩ := row11 R5.out
         have pl := R5.out.lt
         simp only [mk] at p0 p1 p2 p3 p4 p5 p6 p7 p8 p9 p10
         obtain ⟨q0, q1, q2, q3, q4, q5, q6, q7, q8, q9, q10, qf⟩ := row11 Q5.out
         have ql := Q5.out.lt
         simp only [mk] at q0 q1 q2 q3 q4 q5 q6 q7 q8 q9 q10
         skip)
      | (go_at_call 31; have ord := B5.out.size; refine (H5.out _).mono ?_; rintro en w6 ⟨rfl, hb⟩
         have B6 : Hid (Below w.heap.size w w6) := below_more B5.out hb B5.out.size
         have R6 : Hid (Row w6 w1.heap.size 28 (mk 3 t a x s).cells) := R5.out.below hb R5.out.lt
         have Q6 : Hid (Row w6 (w1.heap.size + 1) 28 (mk 3 t b y u).cells) := Q5.out.below hb Q5.out.lt
         clear hb H5 B5 ord R5 Q5 p0 p1 p2 p3 p4 p5 p6 p7 p8 p9 p10 pf pl q0 q1 q2 q3 q4 q5 q6 q7 q8 q9 q10 qf ql
         obtain ⟨p0, p1, p2, p3, p4, p5, p6, p7, p8, p9, p10, pf⟩ := row11 R6.out
         have pl := R6.out.lt
         simp only [mk] at p0 p1 p2 p3 p4 p5 p6 p7 p8 p9 p10
         obtain ⟨q0, q1, q2, q3, q4, q5, q6, q7, q8, q9, q10, qf⟩ := row11 Q6.out
         have ql := Q6.out.lt
         simp only [mk] at q0 q1 q2 q3 q4 q5 q6 q7 q8 q9 q10
         skip))
    go_returns
    exact ⟨rfl, B6.out⟩
end Go.Proofs.YtehakhplglhkdaaGreatDoor
