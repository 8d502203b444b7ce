/- NumberBinary of any arguments. Conditions: the arguments fit their kinds; the texts are short; what strconv reads of the package's variables. -/
import Derived.Test.YtehakhplglhkdaaGreatDoorBinTopB
namespace Go.Proofs.YtehakhplglhkdaaGreatDoor
set_option linter.unusedVariables false
open Go.RowKit

theorem nan_lt (q : Nat) : (q % 2) * 2 ^ 63 + 0x7ff0000000000000 + 1 + (q / 2) % (2 ^ 52 - 1) < 18446744073709551616 := by
  show (q % 2) * 9223372036854775808 + 9218868437227405312 + 1 + q / 2 % 4503599627370495 < 18446744073709551616
  have h1 : q / 2 % 4503599627370495 < 4503599627370495 := Nat.mod_lt _ (by decide)
  have h2 : q % 2 < 2 := Nat.mod_lt _ (by decide)
  generalize q / 2 % 4503599627370495 = r at *
  generalize q % 2 = u at *
  omega
theorem arith_none2 (op : BinOp) (x y : Nat) (h : op = .add ∨ op = .sub ∨ op = .mul ∨ op = .quo) (hn : floatBits op .f64 x y = none) :
    ∃ rr : World → Nat, (∀ w, (binOp op 71 (.float .f64 x) (.float .f64 y)).run Tryz.prog w = .ok (.float .f64 (rr w)) w.drew) ∧ (∀ w, fixNan (rr w) = 9221120237041090561) ∧ ∀ w, rr w < 18446744073709551616 := by
  refine ⟨fun w => (Question.nanBits .f64 x y).cut (w.tape w.drawn (.nanBits .f64 x y)), fun w => ?_, fun w => nan_pick _, fun w => ?_⟩
  · rcases h with rfl | rfl | rfl | rfl <;>
    · simp only [floatBits] at hn
      simp [binOp, Op.floatArith, hn, Question.forced]
  · exact nan_lt _
theorem bits_lt {op : BinOp} {x y r : Nat} (h : floatBits op .f64 x y = some r) : r < 18446744073709551616 := by
  have := floatBits_wf h
  simpa [Lit.wf] using this
theorem flt_bools (x y : Nat) (o : Option Ordering) (ho : FloatKind.f64.format.order x y = o) :
    ((FloatKind.f64.format.order x x == some .eq && FloatKind.f64.format.order y y == some .eq) && o == some .lt) = (o == some .lt) ∧
    ((FloatKind.f64.format.order x x == some .eq && FloatKind.f64.format.order y y == some .eq) && !(o == some .gt)) = (o == some .lt || o == some .eq) ∧
    ((FloatKind.f64.format.order x x == some .eq && FloatKind.f64.format.order y y == some .eq) && o == some .gt) = (o == some .gt) ∧
    ((FloatKind.f64.format.order x x == some .eq && FloatKind.f64.format.order y y == some .eq) && !(o == some .lt)) = (o == some .gt || o == some .eq) := by
  have h2 := order_none FloatKind.f64.format x y
  rw [ho] at h2
  rw [order_self, order_self]
  generalize (FloatKind.f64.format.read x).isNaN = nx at *
  generalize (FloatKind.f64.format.read y).isNaN = ny at *
  rcases o with _ | _ | _ | _ <;> cases nx <;> cases ny <;> simp_all
set_option maxHeartbeats 1000000 in
theorem bin_flts (op : ByteArray) (t s : ByteArray) (n f ro rf rl rc : Int) (pa ia : Option Addr) (pn pc iN ic : Nat) (s2 : ByteArray) (n2 f2 ro2 rf2 rl2 rc2 : Int) (pa2 ia2 : Option Addr) (pn2 pc2 iN2 ic2 : Nat) (w : World) (hG : Glob w) (hs : op.size + t.size + t.size ≤ 3000000) :
    Calls Tryz.prog 4 #[.string op, (Dat.mk 3 t n f s ro rf rl rc pa pn pc ia iN ic).val, (Dat.mk 3 t n2 f2 s2 ro2 rf2 rl2 rc2 pa2 pn2 pc2 ia2 iN2 ic2).val] w fun e w' => e = .returned (.bool true) ∧ Below w.heap.size w w' := by
  by_cases h0 : op = ⟨#[43]⟩
  · subst h0
    cases hb : floatBits .add .f64 f.toNat f2.toNat with
    | some r =>
      refine binLaw_ok ⟨#[43]⟩ t t s s2 3 3 n f ro rf rl rc n2 f2 ro2 rf2 rl2 rc2 pa ia pa2 ia2 pn pc iN ic pn2 pc2 iN2 ic2 3 0 (fixNan r) t ⟨#[]⟩ w hG (fun w => bin17_ok ⟨#[43]⟩ (Dat.mk 3 t n f s ro rf rl rc pa pn pc ia iN ic) (Dat.mk 3 t n2 f2 s2 ro2 rf2 rl2 rc2 pa2 pn2 pc2 ia2 iN2 ic2) (mk 3 t 0 (fixNan r) ⟨#[]⟩) rfl rfl w fun w => b43_flt ⟨#[43]⟩ t s n f ro rf rl rc pa ia pn pc iN ic s2 n2 f2 ro2 rf2 rl2 rc2 pa2 ia2 pn2 pc2 iN2 ic2 (mk 3 t 0 (fixNan r) ⟨#[]⟩) true w fun w => ?_) (fun w => rb_flt_add1 t s n f ro rf rl rc pa ia pn pc iN ic s2 n2 f2 ro2 rf2 rl2 rc2 pa2 ia2 pn2 pc2 iN2 ic2 _ _ _ false r (fixNan r) w (fun w => ro_flt t s n f ro rf rl rc pa ia pn pc iN ic s2 n2 f2 ro2 rf2 rl2 rc2 pa2 ia2 pn2 pc2 iN2 ic2 _ _ _ _ rfl rfl rfl rfl w) (fun w => wh_no ⟨#[43]⟩ _ _ _ w (by rw [ByteArray.toList_eq]; rfl) (by rw [ByteArray.toList_eq]; rfl) (by rw [ByteArray.toList_eq]; rfl) (by rw [ByteArray.toList_eq]; rfl)) (arith_some .add _ _ r hb) fun w => ?_)
      · have h := fl_add t f.toNat f2.toNat w
        rw [hb] at h
        exact h
      · have hl := bits_lt hb
        have h := refbits_any (r : Int) (by omega) (by omega) w
        rw [Int.toNat_natCast] at h
        exact h
    | none =>
      obtain ⟨rr, hr, hN, hl⟩ := arith_none2 .add f.toNat f2.toNat (by simp) hb
      refine binLaw_ok ⟨#[43]⟩ t t s s2 3 3 n f ro rf rl rc n2 f2 ro2 rf2 rl2 rc2 pa ia pa2 ia2 pn pc iN ic pn2 pc2 iN2 ic2 3 0 9221120237041090561 t ⟨#[]⟩ w hG (fun w => bin17_ok ⟨#[43]⟩ (Dat.mk 3 t n f s ro rf rl rc pa pn pc ia iN ic) (Dat.mk 3 t n2 f2 s2 ro2 rf2 rl2 rc2 pa2 pn2 pc2 ia2 iN2 ic2) (mk 3 t 0 9221120237041090561 ⟨#[]⟩) rfl rfl w fun w => b43_flt ⟨#[43]⟩ t s n f ro rf rl rc pa ia pn pc iN ic s2 n2 f2 ro2 rf2 rl2 rc2 pa2 ia2 pn2 pc2 iN2 ic2 (mk 3 t 0 9221120237041090561 ⟨#[]⟩) true w fun w => ?_) (fun w => rb_flt_add2 t s n f ro rf rl rc pa ia pn pc iN ic s2 n2 f2 ro2 rf2 rl2 rc2 pa2 ia2 pn2 pc2 iN2 ic2 _ _ _ false rr 9221120237041090561 w (fun w => ro_flt t s n f ro rf rl rc pa ia pn pc iN ic s2 n2 f2 ro2 rf2 rl2 rc2 pa2 ia2 pn2 pc2 iN2 ic2 _ _ _ _ rfl rfl rfl rfl w) (fun w => wh_no ⟨#[43]⟩ _ _ _ w (by rw [ByteArray.toList_eq]; rfl) (by rw [ByteArray.toList_eq]; rfl) (by rw [ByteArray.toList_eq]; rfl) (by rw [ByteArray.toList_eq]; rfl)) hr fun w' w => ?_)
      · have h := fl_add t f.toNat f2.toNat w
        rw [hb] at h
        exact h
      · have h := refbits_any (rr w' : Int) (by omega) (by have := hl w'; omega) w
        rw [Int.toNat_natCast, hN w'] at h
        exact h
  · skip
    by_cases h1 : op = ⟨#[45]⟩
    · subst h1
      cases hb : floatBits .sub .f64 f.toNat f2.toNat with
      | some r =>
        refine binLaw_ok ⟨#[45]⟩ t t s s2 3 3 n f ro rf rl rc n2 f2 ro2 rf2 rl2 rc2 pa ia pa2 ia2 pn pc iN ic pn2 pc2 iN2 ic2 3 0 (fixNan r) t ⟨#[]⟩ w hG (fun w => bin17_ok ⟨#[45]⟩ (Dat.mk 3 t n f s ro rf rl rc pa pn pc ia iN ic) (Dat.mk 3 t n2 f2 s2 ro2 rf2 rl2 rc2 pa2 pn2 pc2 ia2 iN2 ic2) (mk 3 t 0 (fixNan r) ⟨#[]⟩) rfl rfl w fun w => b43_flt ⟨#[45]⟩ t s n f ro rf rl rc pa ia pn pc iN ic s2 n2 f2 ro2 rf2 rl2 rc2 pa2 ia2 pn2 pc2 iN2 ic2 (mk 3 t 0 (fixNan r) ⟨#[]⟩) true w fun w => ?_) (fun w => rb_flt_sub1 t s n f ro rf rl rc pa ia pn pc iN ic s2 n2 f2 ro2 rf2 rl2 rc2 pa2 ia2 pn2 pc2 iN2 ic2 _ _ _ false r (fixNan r) w (fun w => ro_flt t s n f ro rf rl rc pa ia pn pc iN ic s2 n2 f2 ro2 rf2 rl2 rc2 pa2 ia2 pn2 pc2 iN2 ic2 _ _ _ _ rfl rfl rfl rfl w) (fun w => wh_no ⟨#[45]⟩ _ _ _ w (by rw [ByteArray.toList_eq]; rfl) (by rw [ByteArray.toList_eq]; rfl) (by rw [ByteArray.toList_eq]; rfl) (by rw [ByteArray.toList_eq]; rfl)) (arith_some .sub _ _ r hb) fun w => ?_)
        · have h := fl_sub t f.toNat f2.toNat w
          rw [hb] at h
          exact h
        · have hl := bits_lt hb
          have h := refbits_any (r : Int) (by omega) (by omega) w
          rw [Int.toNat_natCast] at h
          exact h
      | none =>
        obtain ⟨rr, hr, hN, hl⟩ := arith_none2 .sub f.toNat f2.toNat (by simp) hb
        refine binLaw_ok ⟨#[45]⟩ t t s s2 3 3 n f ro rf rl rc n2 f2 ro2 rf2 rl2 rc2 pa ia pa2 ia2 pn pc iN ic pn2 pc2 iN2 ic2 3 0 9221120237041090561 t ⟨#[]⟩ w hG (fun w => bin17_ok ⟨#[45]⟩ (Dat.mk 3 t n f s ro rf rl rc pa pn pc ia iN ic) (Dat.mk 3 t n2 f2 s2 ro2 rf2 rl2 rc2 pa2 pn2 pc2 ia2 iN2 ic2) (mk 3 t 0 9221120237041090561 ⟨#[]⟩) rfl rfl w fun w => b43_flt ⟨#[45]⟩ t s n f ro rf rl rc pa ia pn pc iN ic s2 n2 f2 ro2 rf2 rl2 rc2 pa2 ia2 pn2 pc2 iN2 ic2 (mk 3 t 0 9221120237041090561 ⟨#[]⟩) true w fun w => ?_) (fun w => rb_flt_sub2 t s n f ro rf rl rc pa ia pn pc iN ic s2 n2 f2 ro2 rf2 rl2 rc2 pa2 ia2 pn2 pc2 iN2 ic2 _ _ _ false rr 9221120237041090561 w (fun w => ro_flt t s n f ro rf rl rc pa ia pn pc iN ic s2 n2 f2 ro2 rf2 rl2 rc2 pa2 ia2 pn2 pc2 iN2 ic2 _ _ _ _ rfl rfl rfl rfl w) (fun w => wh_no ⟨#[45]⟩ _ _ _ w (by rw [ByteArray.toList_eq]; rfl) (by rw [ByteArray.toList_eq]; rfl) (by rw [ByteArray.toList_eq]; rfl) (by rw [ByteArray.toList_eq]; rfl)) hr fun w' w => ?_)
        · have h := fl_sub t f.toNat f2.toNat w
          rw [hb] at h
          exact h
        · have h := refbits_any (rr w' : Int) (by omega) (by have := hl w'; omega) w
          rw [Int.toNat_natCast, hN w'] at h
          exact h
    · skip
      by_cases h2 : op = ⟨#[42]⟩
      · subst h2
        cases hb : floatBits .mul .f64 f.toNat f2.toNat with
        | some r =>
          refine binLaw_ok ⟨#[42]⟩ t t s s2 3 3 n f ro rf rl rc n2 f2 ro2 rf2 rl2 rc2 pa ia pa2 ia2 pn pc iN ic pn2 pc2 iN2 ic2 3 0 (fixNan r) t ⟨#[]⟩ w hG (fun w => bin17_ok ⟨#[42]⟩ (Dat.mk 3 t n f s ro rf rl rc pa pn pc ia iN ic) (Dat.mk 3 t n2 f2 s2 ro2 rf2 rl2 rc2 pa2 pn2 pc2 ia2 iN2 ic2) (mk 3 t 0 (fixNan r) ⟨#[]⟩) rfl rfl w fun w => b43_flt ⟨#[42]⟩ t s n f ro rf rl rc pa ia pn pc iN ic s2 n2 f2 ro2 rf2 rl2 rc2 pa2 ia2 pn2 pc2 iN2 ic2 (mk 3 t 0 (fixNan r) ⟨#[]⟩) true w fun w => ?_) (fun w => rb_flt_mul1 t s n f ro rf rl rc pa ia pn pc iN ic s2 n2 f2 ro2 rf2 rl2 rc2 pa2 ia2 pn2 pc2 iN2 ic2 _ _ _ false r (fixNan r) w (fun w => ro_flt t s n f ro rf rl rc pa ia pn pc iN ic s2 n2 f2 ro2 rf2 rl2 rc2 pa2 ia2 pn2 pc2 iN2 ic2 _ _ _ _ rfl rfl rfl rfl w) (fun w => wh_no ⟨#[42]⟩ _ _ _ w (by rw [ByteArray.toList_eq]; rfl) (by rw [ByteArray.toList_eq]; rfl) (by rw [ByteArray.toList_eq]; rfl) (by rw [ByteArray.toList_eq]; rfl)) (arith_some .mul _ _ r hb) fun w => ?_)
          · have h := fl_mul t f.toNat f2.toNat w
            rw [hb] at h
            exact h
          · have hl := bits_lt hb
            have h := refbits_any (r : Int) (by omega) (by omega) w
            rw [Int.toNat_natCast] at h
            exact h
        | none =>
          obtain ⟨rr, hr, hN, hl⟩ := arith_none2 .mul f.toNat f2.toNat (by simp) hb
          refine binLaw_ok ⟨#[42]⟩ t t s s2 3 3 n f ro rf rl rc n2 f2 ro2 rf2 rl2 rc2 pa ia pa2 ia2 pn pc iN ic pn2 pc2 iN2 ic2 3 0 9221120237041090561 t ⟨#[]⟩ w hG (fun w => bin17_ok ⟨#[42]⟩ (Dat.mk 3 t n f s ro rf rl rc pa pn pc ia iN ic) (Dat.mk 3 t n2 f2 s2 ro2 rf2 rl2 rc2 pa2 pn2 pc2 ia2 iN2 ic2) (mk 3 t 0 9221120237041090561 ⟨#[]⟩) rfl rfl w fun w => b43_flt ⟨#[42]⟩ t s n f ro rf rl rc pa ia pn pc iN ic s2 n2 f2 ro2 rf2 rl2 rc2 pa2 ia2 pn2 pc2 iN2 ic2 (mk 3 t 0 9221120237041090561 ⟨#[]⟩) true w fun w => ?_) (fun w => rb_flt_mul2 t s n f ro rf rl rc pa ia pn pc iN ic s2 n2 f2 ro2 rf2 rl2 rc2 pa2 ia2 pn2 pc2 iN2 ic2 _ _ _ false rr 9221120237041090561 w (fun w => ro_flt t s n f ro rf rl rc pa ia pn pc iN ic s2 n2 f2 ro2 rf2 rl2 rc2 pa2 ia2 pn2 pc2 iN2 ic2 _ _ _ _ rfl rfl rfl rfl w) (fun w => wh_no ⟨#[42]⟩ _ _ _ w (by rw [ByteArray.toList_eq]; rfl) (by rw [ByteArray.toList_eq]; rfl) (by rw [ByteArray.toList_eq]; rfl) (by rw [ByteArray.toList_eq]; rfl)) hr fun w' w => ?_)
          · have h := fl_mul t f.toNat f2.toNat w
            rw [hb] at h
            exact h
          · have h := refbits_any (rr w' : Int) (by omega) (by have := hl w'; omega) w
            rw [Int.toNat_natCast, hN w'] at h
            exact h
      · skip
        by_cases h3 : op = ⟨#[47]⟩
        · subst h3
          cases hb : floatBits .quo .f64 f.toNat f2.toNat with
          | some r =>
            refine binLaw_ok ⟨#[47]⟩ t t s s2 3 3 n f ro rf rl rc n2 f2 ro2 rf2 rl2 rc2 pa ia pa2 ia2 pn pc iN ic pn2 pc2 iN2 ic2 3 0 (fixNan r) t ⟨#[]⟩ w hG (fun w => bin17_ok ⟨#[47]⟩ (Dat.mk 3 t n f s ro rf rl rc pa pn pc ia iN ic) (Dat.mk 3 t n2 f2 s2 ro2 rf2 rl2 rc2 pa2 pn2 pc2 ia2 iN2 ic2) (mk 3 t 0 (fixNan r) ⟨#[]⟩) rfl rfl w fun w => b43_flt ⟨#[47]⟩ t s n f ro rf rl rc pa ia pn pc iN ic s2 n2 f2 ro2 rf2 rl2 rc2 pa2 ia2 pn2 pc2 iN2 ic2 (mk 3 t 0 (fixNan r) ⟨#[]⟩) true w fun w => ?_) (fun w => rb_flt_quo1 t s n f ro rf rl rc pa ia pn pc iN ic s2 n2 f2 ro2 rf2 rl2 rc2 pa2 ia2 pn2 pc2 iN2 ic2 _ _ _ false r (fixNan r) w (fun w => ro_flt t s n f ro rf rl rc pa ia pn pc iN ic s2 n2 f2 ro2 rf2 rl2 rc2 pa2 ia2 pn2 pc2 iN2 ic2 _ _ _ _ rfl rfl rfl rfl w) (fun w => wh_no ⟨#[47]⟩ _ _ _ w (by rw [ByteArray.toList_eq]; rfl) (by rw [ByteArray.toList_eq]; rfl) (by rw [ByteArray.toList_eq]; rfl) (by rw [ByteArray.toList_eq]; rfl)) (arith_some .quo _ _ r hb) fun w => ?_)
            · have h := fl_quo t f.toNat f2.toNat w
              rw [hb] at h
              exact h
            · have hl := bits_lt hb
              have h := refbits_any (r : Int) (by omega) (by omega) w
              rw [Int.toNat_natCast] at h
              exact h
          | none =>
            obtain ⟨rr, hr, hN, hl⟩ := arith_none2 .quo f.toNat f2.toNat (by simp) hb
            refine binLaw_ok ⟨#[47]⟩ t t s s2 3 3 n f ro rf rl rc n2 f2 ro2 rf2 rl2 rc2 pa ia pa2 ia2 pn pc iN ic pn2 pc2 iN2 ic2 3 0 9221120237041090561 t ⟨#[]⟩ w hG (fun w => bin17_ok ⟨#[47]⟩ (Dat.mk 3 t n f s ro rf rl rc pa pn pc ia iN ic) (Dat.mk 3 t n2 f2 s2 ro2 rf2 rl2 rc2 pa2 pn2 pc2 ia2 iN2 ic2) (mk 3 t 0 9221120237041090561 ⟨#[]⟩) rfl rfl w fun w => b43_flt ⟨#[47]⟩ t s n f ro rf rl rc pa ia pn pc iN ic s2 n2 f2 ro2 rf2 rl2 rc2 pa2 ia2 pn2 pc2 iN2 ic2 (mk 3 t 0 9221120237041090561 ⟨#[]⟩) true w fun w => ?_) (fun w => rb_flt_quo2 t s n f ro rf rl rc pa ia pn pc iN ic s2 n2 f2 ro2 rf2 rl2 rc2 pa2 ia2 pn2 pc2 iN2 ic2 _ _ _ false rr 9221120237041090561 w (fun w => ro_flt t s n f ro rf rl rc pa ia pn pc iN ic s2 n2 f2 ro2 rf2 rl2 rc2 pa2 ia2 pn2 pc2 iN2 ic2 _ _ _ _ rfl rfl rfl rfl w) (fun w => wh_no ⟨#[47]⟩ _ _ _ w (by rw [ByteArray.toList_eq]; rfl) (by rw [ByteArray.toList_eq]; rfl) (by rw [ByteArray.toList_eq]; rfl) (by rw [ByteArray.toList_eq]; rfl)) hr fun w' w => ?_)
            · have h := fl_quo t f.toNat f2.toNat w
              rw [hb] at h
              exact h
            · have h := refbits_any (rr w' : Int) (by omega) (by have := hl w'; omega) w
              rw [Int.toNat_natCast, hN w'] at h
              exact h
        · skip
          by_cases h4 : op = ⟨#[60]⟩
          · subst h4
            refine cmp_law3 ⟨#[60]⟩ t s n f ro rf rl rc pa ia pn pc iN ic s2 n2 f2 ro2 rf2 rl2 rc2 pa2 ia2 pn2 pc2 iN2 ic2 _ _ _ _ w hG (fun w => b43_flt ⟨#[60]⟩ t s n f ro rf rl rc pa ia pn pc iN ic s2 n2 f2 ro2 rf2 rl2 rc2 pa2 ia2 pn2 pc2 iN2 ic2 (yes _) true w fun w => fl_lt t f.toNat f2.toNat _ rfl w) (fun w => ro_flt t s n f ro rf rl rc pa ia pn pc iN ic s2 n2 f2 ro2 rf2 rl2 rc2 pa2 ia2 pn2 pc2 iN2 ic2 _ _ _ _ rfl rfl rfl rfl w) fun w => ?_
            have h := wh_lt (FloatKind.f64.format.order f.toNat f2.toNat == some .lt) (FloatKind.f64.format.order f.toNat f2.toNat == some .gt) (FloatKind.f64.format.order f.toNat f.toNat == some .eq && FloatKind.f64.format.order f2.toNat f2.toNat == some .eq) w
            rw [(flt_bools f.toNat f2.toNat _ rfl).1] at h
            exact h
          · skip
            by_cases h5 : op = ⟨#[60, 61]⟩
            · subst h5
              refine cmp_law3 ⟨#[60, 61]⟩ t s n f ro rf rl rc pa ia pn pc iN ic s2 n2 f2 ro2 rf2 rl2 rc2 pa2 ia2 pn2 pc2 iN2 ic2 _ _ _ _ w hG (fun w => b43_flt ⟨#[60, 61]⟩ t s n f ro rf rl rc pa ia pn pc iN ic s2 n2 f2 ro2 rf2 rl2 rc2 pa2 ia2 pn2 pc2 iN2 ic2 (yes _) true w fun w => fl_le t f.toNat f2.toNat _ rfl w) (fun w => ro_flt t s n f ro rf rl rc pa ia pn pc iN ic s2 n2 f2 ro2 rf2 rl2 rc2 pa2 ia2 pn2 pc2 iN2 ic2 _ _ _ _ rfl rfl rfl rfl w) fun w => ?_
              have h := wh_le (FloatKind.f64.format.order f.toNat f2.toNat == some .lt) (FloatKind.f64.format.order f.toNat f2.toNat == some .gt) (FloatKind.f64.format.order f.toNat f.toNat == some .eq && FloatKind.f64.format.order f2.toNat f2.toNat == some .eq) w
              rw [(flt_bools f.toNat f2.toNat _ rfl).2.1] at h
              exact h
            · skip
              by_cases h6 : op = ⟨#[62]⟩
              · subst h6
                refine cmp_law3 ⟨#[62]⟩ t s n f ro rf rl rc pa ia pn pc iN ic s2 n2 f2 ro2 rf2 rl2 rc2 pa2 ia2 pn2 pc2 iN2 ic2 _ _ _ _ w hG (fun w => b43_flt ⟨#[62]⟩ t s n f ro rf rl rc pa ia pn pc iN ic s2 n2 f2 ro2 rf2 rl2 rc2 pa2 ia2 pn2 pc2 iN2 ic2 (yes _) true w fun w => fl_gt t f.toNat f2.toNat _ rfl w) (fun w => ro_flt t s n f ro rf rl rc pa ia pn pc iN ic s2 n2 f2 ro2 rf2 rl2 rc2 pa2 ia2 pn2 pc2 iN2 ic2 _ _ _ _ rfl rfl rfl rfl w) fun w => ?_
                have h := wh_gt (FloatKind.f64.format.order f.toNat f2.toNat == some .lt) (FloatKind.f64.format.order f.toNat f2.toNat == some .gt) (FloatKind.f64.format.order f.toNat f.toNat == some .eq && FloatKind.f64.format.order f2.toNat f2.toNat == some .eq) w
                rw [(flt_bools f.toNat f2.toNat _ rfl).2.2.1] at h
                exact h
              · skip
                by_cases h7 : op = ⟨#[62, 61]⟩
                · subst h7
                  refine cmp_law3 ⟨#[62, 61]⟩ t s n f ro rf rl rc pa ia pn pc iN ic s2 n2 f2 ro2 rf2 rl2 rc2 pa2 ia2 pn2 pc2 iN2 ic2 _ _ _ _ w hG (fun w => b43_flt ⟨#[62, 61]⟩ t s n f ro rf rl rc pa ia pn pc iN ic s2 n2 f2 ro2 rf2 rl2 rc2 pa2 ia2 pn2 pc2 iN2 ic2 (yes _) true w fun w => fl_ge t f.toNat f2.toNat _ rfl w) (fun w => ro_flt t s n f ro rf rl rc pa ia pn pc iN ic s2 n2 f2 ro2 rf2 rl2 rc2 pa2 ia2 pn2 pc2 iN2 ic2 _ _ _ _ rfl rfl rfl rfl w) fun w => ?_
                  have h := wh_ge (FloatKind.f64.format.order f.toNat f2.toNat == some .lt) (FloatKind.f64.format.order f.toNat f2.toNat == some .gt) (FloatKind.f64.format.order f.toNat f.toNat == some .eq && FloatKind.f64.format.order f2.toNat f2.toNat == some .eq) w
                  rw [(flt_bools f.toNat f2.toNat _ rfl).2.2.2] at h
                  exact h
                · skip
                  exact no_op3 op t s n f ro rf rl rc pa ia pn pc iN ic s2 n2 f2 ro2 rf2 rl2 rc2 pa2 ia2 pn2 pc2 iN2 ic2 zeroD w hG hs (fun w => b43_flt op t s n f ro rf rl rc pa ia pn pc iN ic s2 n2 f2 ro2 rf2 rl2 rc2 pa2 ia2 pn2 pc2 iN2 ic2 zeroD false w fun w => fl_no op t f.toNat f2.toNat w (ne_list h0) (ne_list h1) (ne_list h2) (ne_list h3) (ne_list h4) (ne_list h5) (ne_list h6) (ne_list h7)) (fun w => rb_flt_no op sOperand _ t s n f ro rf rl rc pa ia pn pc iN ic s2 n2 f2 ro2 rf2 rl2 rc2 pa2 ia2 pn2 pc2 iN2 ic2 _ _ _ false w (ne_list h0) (ne_list h1) (ne_list h2) (ne_list h3) (fun w => ro_flt t s n f ro rf rl rc pa ia pn pc iN ic s2 n2 f2 ro2 rf2 rl2 rc2 pa2 ia2 pn2 pc2 iN2 ic2 _ _ _ _ rfl rfl rfl rfl w) (fun w => wh_no op _ _ _ w (ne_list h4) (ne_list h5) (ne_list h6) (ne_list h7)) (fun w => wrong_any op t t s s2 3 3 n f ro rf rl rc n2 f2 ro2 rf2 rl2 rc2 pa ia pa2 ia2 pn pc iN ic pn2 pc2 iN2 ic2 w hs))
set_option maxHeartbeats 1000000 in
theorem bin_txts (op : ByteArray) (t s : ByteArray) (n f ro rf rl rc : Int) (pa ia : Option Addr) (pn pc iN ic : Nat) (s2 : ByteArray) (n2 f2 ro2 rf2 rl2 rc2 : Int) (pa2 ia2 : Option Addr) (pn2 pc2 iN2 ic2 : Nat) (w : World) (hG : Glob w) (hTB : ∀ W, Below w.heap.size w W → Lib.TabIs Tryz.prog W "internal/strconv.uint64pow10" .u64 Lib.pow10Tab) (hs : op.size + t.size + t.size ≤ 3000000) (hss : s.size + s2.size ≤ 3000000) :
    Calls Tryz.prog 4 #[.string op, (Dat.mk 4 t n f s ro rf rl rc pa pn pc ia iN ic).val, (Dat.mk 4 t n2 f2 s2 ro2 rf2 rl2 rc2 pa2 pn2 pc2 ia2 iN2 ic2).val] w fun e w' => e = .returned (.bool true) ∧ Below w.heap.size w w' := by
  obtain ⟨be, hbe⟩ : ∃ b, b = decide (Lib.compareBytes s.data.toList s2.data.toList < 0) := ⟨_, rfl⟩
  obtain ⟨ab, hab⟩ : ∃ b, b = decide (0 < Lib.compareBytes s.data.toList s2.data.toList) := ⟨_, rfl⟩
  have hc : Lib.compareBytes s.data.toList s2.data.toList = -1 ∧ be = true ∧ ab = false ∨ Lib.compareBytes s.data.toList s2.data.toList = 0 ∧ be = false ∧ ab = false ∨ Lib.compareBytes s.data.toList s2.data.toList = 1 ∧ be = false ∧ ab = true := by
    rcases cmp_three s.data.toList s2.data.toList with ⟨h, _⟩ | ⟨h, _⟩ | ⟨h, _⟩
    · left; rw [h] at hbe hab; exact ⟨h, by rw [hbe]; decide, by rw [hab]; decide⟩
    · right; left; rw [h] at hbe hab; exact ⟨h, by rw [hbe]; decide, by rw [hab]; decide⟩
    · right; right; rw [h] at hbe hab; exact ⟨h, by rw [hbe]; decide, by rw [hab]; decide⟩
  by_cases h0 : op = ⟨#[43]⟩
  · subst h0
    by_cases h : s.size + s2.size ≤ 65536
    · exact binLaw_ok ⟨#[43]⟩ t t s s2 4 4 n f ro rf rl rc n2 f2 ro2 rf2 rl2 rc2 pa ia pa2 ia2 pn pc iN ic pn2 pc2 iN2 ic2 4 0 0 t (s ++ s2) w hG (fun w => bin17_ok ⟨#[43]⟩ (Dat.mk 4 t n f s ro rf rl rc pa pn pc ia iN ic) (Dat.mk 4 t n2 f2 s2 ro2 rf2 rl2 rc2 pa2 pn2 pc2 ia2 iN2 ic2) (mk 4 t 0 0 (s ++ s2)) rfl rfl w fun w => b43_cat t s n f ro rf rl rc pa ia pn pc iN ic s2 n2 f2 ro2 rf2 rl2 rc2 pa2 ia2 pn2 pc2 iN2 ic2 w h) (fun w => rb_txt_cat t s n f ro rf rl rc pa ia pn pc iN ic s2 n2 f2 ro2 rf2 rl2 rc2 pa2 ia2 pn2 pc2 iN2 ic2 _ _ _ false w h (fun w => ro_txt t s n f ro rf rl rc pa ia pn pc iN ic s2 n2 f2 ro2 rf2 rl2 rc2 pa2 ia2 pn2 pc2 iN2 ic2 w (by omega) (by omega) _ _ hbe hab) (fun w => wh_no ⟨#[43]⟩ _ _ _ w (by rw [ByteArray.toList_eq]; rfl) (by rw [ByteArray.toList_eq]; rfl) (by rw [ByteArray.toList_eq]; rfl) (by rw [ByteArray.toList_eq]; rfl)))
    · exact binLaw_fault ⟨#[43]⟩ t t s s2 4 4 n f ro rf rl rc n2 f2 ro2 rf2 rl2 rc2 pa ia pa2 ia2 pn pc iN ic pn2 pc2 iN2 ic2 0 0 0 ⟨#[]⟩ ⟨#[]⟩ sCount _ sCount_ne w hG (fun W hW => bin17_err ⟨#[43]⟩ sCount _ 4 t s n f ro rf rl rc pa ia pn pc iN ic s2 n2 f2 ro2 rf2 rl2 rc2 pa2 ia2 pn2 pc2 iN2 ic2 W fun W2 hW2 => b43_long t s n f ro rf rl rc pa ia pn pc iN ic s2 n2 f2 ro2 rf2 rl2 rc2 pa2 ia2 pn2 pc2 iN2 ic2 W2 (by omega) (by omega) (hTB W2 (below_more hW hW2 hW.size))) (fun w => rb_txt_long t s n f ro rf rl rc pa ia pn pc iN ic s2 n2 f2 ro2 rf2 rl2 rc2 pa2 ia2 pn2 pc2 iN2 ic2 _ _ _ false w (by omega) (by omega) (fun w => ro_txt t s n f ro rf rl rc pa ia pn pc iN ic s2 n2 f2 ro2 rf2 rl2 rc2 pa2 ia2 pn2 pc2 iN2 ic2 w (by omega) (by omega) _ _ hbe hab) (fun w => wh_no ⟨#[43]⟩ _ _ _ w (by rw [ByteArray.toList_eq]; rfl) (by rw [ByteArray.toList_eq]; rfl) (by rw [ByteArray.toList_eq]; rfl) (by rw [ByteArray.toList_eq]; rfl)))
  · skip
    by_cases h1 : op = ⟨#[60]⟩
    · subst h1
      rcases hc with ⟨hc, rfl, rfl⟩ | ⟨hc, rfl, rfl⟩ | ⟨hc, rfl, rfl⟩
      · exact cmp_law4 ⟨#[60]⟩ t s n f ro rf rl rc pa ia pn pc iN ic s2 n2 f2 ro2 rf2 rl2 rc2 pa2 ia2 pn2 pc2 iN2 ic2 _ _ true true w hG (fun w => b43_cmp ⟨#[60]⟩ t s n f ro rf rl rc pa ia pn pc iN ic s2 n2 f2 ro2 rf2 rl2 rc2 pa2 ia2 pn2 pc2 iN2 ic2 (-1) true true w (by rw [ByteArray.toList_eq]; rfl) (bne_of (by rw [ByteArray.toList_eq]; rfl)) hc (ord_lt_n)) (fun w => ro_txt t s n f ro rf rl rc pa ia pn pc iN ic s2 n2 f2 ro2 rf2 rl2 rc2 pa2 ia2 pn2 pc2 iN2 ic2 w (by omega) (by omega) _ _ hbe hab) (fun w => wh_lt _ _ _ w)
      · exact cmp_law4 ⟨#[60]⟩ t s n f ro rf rl rc pa ia pn pc iN ic s2 n2 f2 ro2 rf2 rl2 rc2 pa2 ia2 pn2 pc2 iN2 ic2 _ _ true false w hG (fun w => b43_cmp ⟨#[60]⟩ t s n f ro rf rl rc pa ia pn pc iN ic s2 n2 f2 ro2 rf2 rl2 rc2 pa2 ia2 pn2 pc2 iN2 ic2 0 false true w (by rw [ByteArray.toList_eq]; rfl) (bne_of (by rw [ByteArray.toList_eq]; rfl)) hc (ord_lt_z)) (fun w => ro_txt t s n f ro rf rl rc pa ia pn pc iN ic s2 n2 f2 ro2 rf2 rl2 rc2 pa2 ia2 pn2 pc2 iN2 ic2 w (by omega) (by omega) _ _ hbe hab) (fun w => wh_lt _ _ _ w)
      · exact cmp_law4 ⟨#[60]⟩ t s n f ro rf rl rc pa ia pn pc iN ic s2 n2 f2 ro2 rf2 rl2 rc2 pa2 ia2 pn2 pc2 iN2 ic2 _ _ true false w hG (fun w => b43_cmp ⟨#[60]⟩ t s n f ro rf rl rc pa ia pn pc iN ic s2 n2 f2 ro2 rf2 rl2 rc2 pa2 ia2 pn2 pc2 iN2 ic2 1 false true w (by rw [ByteArray.toList_eq]; rfl) (bne_of (by rw [ByteArray.toList_eq]; rfl)) hc (ord_lt_p)) (fun w => ro_txt t s n f ro rf rl rc pa ia pn pc iN ic s2 n2 f2 ro2 rf2 rl2 rc2 pa2 ia2 pn2 pc2 iN2 ic2 w (by omega) (by omega) _ _ hbe hab) (fun w => wh_lt _ _ _ w)
    · skip
      by_cases h2 : op = ⟨#[60, 61]⟩
      · subst h2
        rcases hc with ⟨hc, rfl, rfl⟩ | ⟨hc, rfl, rfl⟩ | ⟨hc, rfl, rfl⟩
        · exact cmp_law4 ⟨#[60, 61]⟩ t s n f ro rf rl rc pa ia pn pc iN ic s2 n2 f2 ro2 rf2 rl2 rc2 pa2 ia2 pn2 pc2 iN2 ic2 _ _ true true w hG (fun w => b43_cmp ⟨#[60, 61]⟩ t s n f ro rf rl rc pa ia pn pc iN ic s2 n2 f2 ro2 rf2 rl2 rc2 pa2 ia2 pn2 pc2 iN2 ic2 (-1) true true w (by rw [ByteArray.toList_eq]; rfl) (bne_of (by rw [ByteArray.toList_eq]; rfl)) hc (ord_le_n)) (fun w => ro_txt t s n f ro rf rl rc pa ia pn pc iN ic s2 n2 f2 ro2 rf2 rl2 rc2 pa2 ia2 pn2 pc2 iN2 ic2 w (by omega) (by omega) _ _ hbe hab) (fun w => wh_le _ _ _ w)
        · exact cmp_law4 ⟨#[60, 61]⟩ t s n f ro rf rl rc pa ia pn pc iN ic s2 n2 f2 ro2 rf2 rl2 rc2 pa2 ia2 pn2 pc2 iN2 ic2 _ _ true true w hG (fun w => b43_cmp ⟨#[60, 61]⟩ t s n f ro rf rl rc pa ia pn pc iN ic s2 n2 f2 ro2 rf2 rl2 rc2 pa2 ia2 pn2 pc2 iN2 ic2 0 true true w (by rw [ByteArray.toList_eq]; rfl) (bne_of (by rw [ByteArray.toList_eq]; rfl)) hc (ord_le_z)) (fun w => ro_txt t s n f ro rf rl rc pa ia pn pc iN ic s2 n2 f2 ro2 rf2 rl2 rc2 pa2 ia2 pn2 pc2 iN2 ic2 w (by omega) (by omega) _ _ hbe hab) (fun w => wh_le _ _ _ w)
        · exact cmp_law4 ⟨#[60, 61]⟩ t s n f ro rf rl rc pa ia pn pc iN ic s2 n2 f2 ro2 rf2 rl2 rc2 pa2 ia2 pn2 pc2 iN2 ic2 _ _ true false w hG (fun w => b43_cmp ⟨#[60, 61]⟩ t s n f ro rf rl rc pa ia pn pc iN ic s2 n2 f2 ro2 rf2 rl2 rc2 pa2 ia2 pn2 pc2 iN2 ic2 1 false true w (by rw [ByteArray.toList_eq]; rfl) (bne_of (by rw [ByteArray.toList_eq]; rfl)) hc (ord_le_p)) (fun w => ro_txt t s n f ro rf rl rc pa ia pn pc iN ic s2 n2 f2 ro2 rf2 rl2 rc2 pa2 ia2 pn2 pc2 iN2 ic2 w (by omega) (by omega) _ _ hbe hab) (fun w => wh_le _ _ _ w)
      · skip
        by_cases h3 : op = ⟨#[62]⟩
        · subst h3
          rcases hc with ⟨hc, rfl, rfl⟩ | ⟨hc, rfl, rfl⟩ | ⟨hc, rfl, rfl⟩
          · exact cmp_law4 ⟨#[62]⟩ t s n f ro rf rl rc pa ia pn pc iN ic s2 n2 f2 ro2 rf2 rl2 rc2 pa2 ia2 pn2 pc2 iN2 ic2 _ _ true false w hG (fun w => b43_cmp ⟨#[62]⟩ t s n f ro rf rl rc pa ia pn pc iN ic s2 n2 f2 ro2 rf2 rl2 rc2 pa2 ia2 pn2 pc2 iN2 ic2 (-1) false true w (by rw [ByteArray.toList_eq]; rfl) (bne_of (by rw [ByteArray.toList_eq]; rfl)) hc (ord_gt_n)) (fun w => ro_txt t s n f ro rf rl rc pa ia pn pc iN ic s2 n2 f2 ro2 rf2 rl2 rc2 pa2 ia2 pn2 pc2 iN2 ic2 w (by omega) (by omega) _ _ hbe hab) (fun w => wh_gt _ _ _ w)
          · exact cmp_law4 ⟨#[62]⟩ t s n f ro rf rl rc pa ia pn pc iN ic s2 n2 f2 ro2 rf2 rl2 rc2 pa2 ia2 pn2 pc2 iN2 ic2 _ _ true false w hG (fun w => b43_cmp ⟨#[62]⟩ t s n f ro rf rl rc pa ia pn pc iN ic s2 n2 f2 ro2 rf2 rl2 rc2 pa2 ia2 pn2 pc2 iN2 ic2 0 false true w (by rw [ByteArray.toList_eq]; rfl) (bne_of (by rw [ByteArray.toList_eq]; rfl)) hc (ord_gt_z)) (fun w => ro_txt t s n f ro rf rl rc pa ia pn pc iN ic s2 n2 f2 ro2 rf2 rl2 rc2 pa2 ia2 pn2 pc2 iN2 ic2 w (by omega) (by omega) _ _ hbe hab) (fun w => wh_gt _ _ _ w)
          · exact cmp_law4 ⟨#[62]⟩ t s n f ro rf rl rc pa ia pn pc iN ic s2 n2 f2 ro2 rf2 rl2 rc2 pa2 ia2 pn2 pc2 iN2 ic2 _ _ true true w hG (fun w => b43_cmp ⟨#[62]⟩ t s n f ro rf rl rc pa ia pn pc iN ic s2 n2 f2 ro2 rf2 rl2 rc2 pa2 ia2 pn2 pc2 iN2 ic2 1 true true w (by rw [ByteArray.toList_eq]; rfl) (bne_of (by rw [ByteArray.toList_eq]; rfl)) hc (ord_gt_p)) (fun w => ro_txt t s n f ro rf rl rc pa ia pn pc iN ic s2 n2 f2 ro2 rf2 rl2 rc2 pa2 ia2 pn2 pc2 iN2 ic2 w (by omega) (by omega) _ _ hbe hab) (fun w => wh_gt _ _ _ w)
        · skip
          by_cases h4 : op = ⟨#[62, 61]⟩
          · subst h4
            rcases hc with ⟨hc, rfl, rfl⟩ | ⟨hc, rfl, rfl⟩ | ⟨hc, rfl, rfl⟩
            · exact cmp_law4 ⟨#[62, 61]⟩ t s n f ro rf rl rc pa ia pn pc iN ic s2 n2 f2 ro2 rf2 rl2 rc2 pa2 ia2 pn2 pc2 iN2 ic2 _ _ true false w hG (fun w => b43_cmp ⟨#[62, 61]⟩ t s n f ro rf rl rc pa ia pn pc iN ic s2 n2 f2 ro2 rf2 rl2 rc2 pa2 ia2 pn2 pc2 iN2 ic2 (-1) false true w (by rw [ByteArray.toList_eq]; rfl) (bne_of (by rw [ByteArray.toList_eq]; rfl)) hc (ord_ge_n)) (fun w => ro_txt t s n f ro rf rl rc pa ia pn pc iN ic s2 n2 f2 ro2 rf2 rl2 rc2 pa2 ia2 pn2 pc2 iN2 ic2 w (by omega) (by omega) _ _ hbe hab) (fun w => wh_ge _ _ _ w)
            · exact cmp_law4 ⟨#[62, 61]⟩ t s n f ro rf rl rc pa ia pn pc iN ic s2 n2 f2 ro2 rf2 rl2 rc2 pa2 ia2 pn2 pc2 iN2 ic2 _ _ true true w hG (fun w => b43_cmp ⟨#[62, 61]⟩ t s n f ro rf rl rc pa ia pn pc iN ic s2 n2 f2 ro2 rf2 rl2 rc2 pa2 ia2 pn2 pc2 iN2 ic2 0 true true w (by rw [ByteArray.toList_eq]; rfl) (bne_of (by rw [ByteArray.toList_eq]; rfl)) hc (ord_ge_z)) (fun w => ro_txt t s n f ro rf rl rc pa ia pn pc iN ic s2 n2 f2 ro2 rf2 rl2 rc2 pa2 ia2 pn2 pc2 iN2 ic2 w (by omega) (by omega) _ _ hbe hab) (fun w => wh_ge _ _ _ w)
            · exact cmp_law4 ⟨#[62, 61]⟩ t s n f ro rf rl rc pa ia pn pc iN ic s2 n2 f2 ro2 rf2 rl2 rc2 pa2 ia2 pn2 pc2 iN2 ic2 _ _ true true w hG (fun w => b43_cmp ⟨#[62, 61]⟩ t s n f ro rf rl rc pa ia pn pc iN ic s2 n2 f2 ro2 rf2 rl2 rc2 pa2 ia2 pn2 pc2 iN2 ic2 1 true true w (by rw [ByteArray.toList_eq]; rfl) (bne_of (by rw [ByteArray.toList_eq]; rfl)) hc (ord_ge_p)) (fun w => ro_txt t s n f ro rf rl rc pa ia pn pc iN ic s2 n2 f2 ro2 rf2 rl2 rc2 pa2 ia2 pn2 pc2 iN2 ic2 w (by omega) (by omega) _ _ hbe hab) (fun w => wh_ge _ _ _ w)
          · skip
            exact no_op4 op t s n f ro rf rl rc pa ia pn pc iN ic s2 n2 f2 ro2 rf2 rl2 rc2 pa2 ia2 pn2 pc2 iN2 ic2 (yes false) w hG hs (fun w => b43_cmp op t s n f ro rf rl rc pa ia pn pc iN ic s2 n2 f2 ro2 rf2 rl2 rc2 pa2 ia2 pn2 pc2 iN2 ic2 _ false false w (ne_list h0) (bne_of (ne_list h0)) rfl fun w => ord_no op _ w (ne_list h1) (ne_list h2) (ne_list h3) (ne_list h4)) (fun w => rb_txt_no op sOperand _ t s n f ro rf rl rc pa ia pn pc iN ic s2 n2 f2 ro2 rf2 rl2 rc2 pa2 ia2 pn2 pc2 iN2 ic2 _ _ _ false w (ne_list h0) (bne_of (ne_list h0)) (fun w => ro_txt t s n f ro rf rl rc pa ia pn pc iN ic s2 n2 f2 ro2 rf2 rl2 rc2 pa2 ia2 pn2 pc2 iN2 ic2 w (by omega) (by omega) _ _ hbe hab) (fun w => wh_no op _ _ _ w (ne_list h1) (ne_list h2) (ne_list h3) (ne_list h4)) (fun w => wrong_any op t t s s2 4 4 n f ro rf rl rc n2 f2 ro2 rf2 rl2 rc2 pa ia pa2 ia2 pn pc iN ic pn2 pc2 iN2 ic2 w hs))
set_option maxHeartbeats 1000000 in
theorem numberBinary_any (op t t2 s s2 : ByteArray) (k k2 n f ro rf rl rc n2 f2 ro2 rf2 rl2 rc2 : Int) (pa ia pa2 ia2 : Option Addr) (pn pc iN ic pn2 pc2 iN2 ic2 : Nat) (w : World) (hn : I64 n) (hn2 : I64 n2) (hs : op.size + t.size + t2.size ≤ 3000000) (hss : s.size + s2.size ≤ 3000000) (hG : Glob w) (hT : Lib.TabIs Tryz.prog w "internal/strconv.uint64pow10" .u64 Lib.pow10Tab) :
    Calls Tryz.prog 4 #[.string op, (Dat.mk k t n f s ro rf rl rc pa pn pc ia iN ic).val, (Dat.mk k2 t2 n2 f2 s2 ro2 rf2 rl2 rc2 pa2 pn2 pc2 ia2 iN2 ic2).val] w fun e w' => e = .returned (.bool true) ∧ Below w.heap.size w w' := by
  have hTB : ∀ W, Below w.heap.size w W → Lib.TabIs Tryz.prog W "internal/strconv.uint64pow10" .u64 Lib.pow10Tab := Lib.tabBelow_of_tabIs hT
  by_cases hk : k = k2
  · subst hk
    by_cases ht : t = t2
    · subst ht
      by_cases k2 : k = 2
      · subst k2; exact bin_ints op t s n f ro rf rl rc pa ia pn pc iN ic s2 n2 f2 ro2 rf2 rl2 rc2 pa2 ia2 pn2 pc2 iN2 ic2 w hG hTB hn hn2 hs
      · by_cases k3 : k = 3
        · subst k3; exact bin_flts op t s n f ro rf rl rc pa ia pn pc iN ic s2 n2 f2 ro2 rf2 rl2 rc2 pa2 ia2 pn2 pc2 iN2 ic2 w hG hs
        · by_cases k4 : k = 4
          · subst k4; exact bin_txts op t s n f ro rf rl rc pa ia pn pc iN ic s2 n2 f2 ro2 rf2 rl2 rc2 pa2 ia2 pn2 pc2 iN2 ic2 w hG hTB hs hss
          · exact binLaw_fault op t t s s2 k k n f ro rf rl rc n2 f2 ro2 rf2 rl2 rc2 pa ia pa2 ia2 pn pc iN ic pn2 pc2 iN2 ic2 0 0 0 ⟨#[]⟩ ⟨#[]⟩ sOperand _ sOp_ne w hG
              (fun W _ => bin17_no op k t s n f ro rf rl rc pa ia pn pc iN ic s2 n2 f2 ro2 rf2 rl2 rc2 pa2 ia2 pn2 pc2 iN2 ic2 zeroD W hs fun w => b43_none op k t s n f ro rf rl rc pa ia pn pc iN ic s2 n2 f2 ro2 rf2 rl2 rc2 pa2 ia2 pn2 pc2 iN2 ic2 w (ne_int k2) (ne_int k3) (ne_int k4))
              (fun w => rb_none op sOperand _ k t s n f ro rf rl rc pa ia pn pc iN ic s2 n2 f2 ro2 rf2 rl2 rc2 pa2 ia2 pn2 pc2 iN2 ic2 w (ne_int k2) (ne_int k3) (ne_int k4) (by simp [k2]) (by simp [k3]) (by simp [k4]) fun w => wrong_any op t t s s2 k k n f ro rf rl rc n2 f2 ro2 rf2 rl2 rc2 pa ia pa2 ia2 pn pc iN ic pn2 pc2 iN2 ic2 w hs)
    · have hl : (t.toList == t2.toList) = false := by rw [ByteArray.toList_eq t2]; exact ne_list ht
      exact binLaw_fault op t t2 s s2 k k n f ro rf rl rc n2 f2 ro2 rf2 rl2 rc2 pa ia pa2 ia2 pn pc iN ic pn2 pc2 iN2 ic2 0 0 0 ⟨#[]⟩ ⟨#[]⟩ sOperand _ sOp_ne w hG
        (fun W _ => bin17_nety op t t2 s s2 k n f ro rf rl rc n2 f2 ro2 rf2 rl2 rc2 pa ia pa2 ia2 pn pc iN ic pn2 pc2 iN2 ic2 W hs hl)
        (fun w => rb_nety op sOperand _ k t2 t s n f ro rf rl rc pa ia pn pc iN ic s2 n2 f2 ro2 rf2 rl2 rc2 pa2 ia2 pn2 pc2 iN2 ic2 w hl fun w => wrong_any op t t2 s s2 k k n f ro rf rl rc n2 f2 ro2 rf2 rl2 rc2 pa ia pa2 ia2 pn pc iN ic pn2 pc2 iN2 ic2 w hs)
  · exact binLaw_fault op t t2 s s2 k k2 n f ro rf rl rc n2 f2 ro2 rf2 rl2 rc2 pa ia pa2 ia2 pn pc iN ic pn2 pc2 iN2 ic2 0 0 0 ⟨#[]⟩ ⟨#[]⟩ sOperand _ sOp_ne w hG
      (fun W _ => bin17_nek op t t2 s s2 k k2 n f ro rf rl rc n2 f2 ro2 rf2 rl2 rc2 pa ia pa2 ia2 pn pc iN ic pn2 pc2 iN2 ic2 W hs (ne_int hk))
      (fun w => rb_nek op sOperand _ k k2 t2 t s n f ro rf rl rc pa ia pn pc iN ic s2 n2 f2 ro2 rf2 rl2 rc2 pa2 ia2 pn2 pc2 iN2 ic2 w (by simp [hk]) fun w => wrong_any op t t2 s s2 k k2 n f ro rf rl rc n2 f2 ro2 rf2 rl2 rc2 pa ia pa2 ia2 pn pc iN ic pn2 pc2 iN2 ic2 w hs)
end Go.Proofs.YtehakhplglhkdaaGreatDoor
