/- NumberBack of any arguments. Conditions: the arguments fit their kinds; what strconv reads of the package's variables. -/
import Derived.Test.YtehakhplglhkdaaGreatDoorBackLaw
import Derived.Test.YtehakhplglhkdaaGreatDoorRingPlain
namespace Go.Proofs.YtehakhplglhkdaaGreatDoor
set_option linter.unusedVariables false
open Go.RowKit

theorem nan_shift (x : Int) (h0 : 0 ≤ x) (h1 : x < 18446744073709551616) : decide (18437736874454810624 < IntKind.u64.wrap (x * 2)) = (Ieee.double.read x.toNat).isNaN := by
  rw [nan_bits]
  obtain ⟨n, rfl⟩ := Int.eq_ofNat_of_zero_le h0
  simp only [Int.toNat_natCast]
  congr 1
  apply propext
  show 18437736874454810624 < ((n : Int) * 2) % 18446744073709551616 ↔ _
  omega
theorem back_int {m : Int} (h : m.natAbs < 9007199254740992) : floatToIntVal .f64 (floatOfInt .f64 m) .i64 = some m := by
  unfold floatToIntVal
  have e : (FloatKind.f64.decode (floatOfInt .f64 m)).toInt .zero = some m := fl_back m h
  have h1 : IntKind.i64.min = -9223372036854775808 := by decide
  have h2 : IntKind.i64.max = 9223372036854775807 := by decide
  rw [e]
  dsimp only
  rw [if_pos (by omega)]
set_option maxRecDepth 200000 in
theorem numberBack_any (n : Int) (t : ByteArray) (f : Int) (w : World) (hn : I64 n) (hf : 0 ≤ f ∧ f < 18446744073709551616) (hG : Glob w) (hT : Lib.TabIs Tryz.prog w "internal/strconv.uint64pow10" .u64 Lib.pow10Tab) :
    Calls Tryz.prog 10 #[.int .i64 n, .string t, .int .u64 f] w fun e w' => e = .returned (.bool true) ∧ Below w.heap.size w w' := by
  obtain ⟨sm, hsm⟩ : ∃ sm, n.tmod 9007199254740992 = sm := ⟨_, rfl⟩
  have hb : sm.natAbs < 9007199254740992 := by
    rw [← hsm, Int.natAbs_tmod]
    exact Nat.mod_lt _ (by decide)
  have hx := nan_shift f hf.1 hf.2
  have c3 := fun w => conv_if sInt t sm w
  have hfix : fixNan (floatOfInt .f64 sm) = ((floatOfInt .f64 sm : Nat) : Int) := by
    unfold fixNan
    rw [fl_notnan sm hb, if_neg (by simp)]
  rw [hfix] at c3
  have c4 := fun w => conv_fi t sInt ((floatOfInt .f64 sm : Nat) : Int) sm w (by
    rw [Int.toNat_natCast]
    exact fun w => toward_ok _ sm w (fl_ge sm hb) (fl_lt2 sm hb) (back_int hb))
  have c5 := fun w => conv_ff t sFloat f w
  have h32 := fun w => whole32 n w
  have h32b := fun w => whole32 sm w
  have c1 := fun w => conv_int sInt t n w
  have c2 := fun w => conv_int t sInt n w
  have h14 := fun w => same_mk 2 n 0 sInt ⟨#[]⟩ w
  have hnan : (Ieee.double.read f.toNat).isNaN = true ∧ fixNan f.toNat = 9221120237041090561 ∨ (Ieee.double.read f.toNat).isNaN = false ∧ fixNan f.toNat = f := by
    unfold fixNan
    cases h : (Ieee.double.read f.toNat).isNaN
    · right; exact ⟨rfl, by rw [if_neg (by simp)]; omega⟩
    · left; exact ⟨rfl, by rw [if_pos rfl]⟩
  by_cases hs : n < 0
  · rcases hnan with ⟨h1, h2⟩ | ⟨h1, h2⟩
    · exact back_neg_nan n t f _ _ sm w hG hs hsm (hx.trans h1) h2 h32 c1 c2 h14 h32b c3 c4 c5
    · exact back_neg n t f _ _ sm w hG hs hsm (hx.trans h1) h2 h32 c1 c2 h14 h32b c3 c4 c5
  · obtain ⟨m, rfl⟩ := Int.eq_ofNat_of_zero_le (show 0 ≤ n by omega)
    have hm : m < 9223372036854775808 := by unfold I64 at hn; omega
    have hTB := Lib.tabBelow_of_tabIs hT
    have hsh := fun (w' : World) (hb : Below w.heap.size w w') => show_int m w' hm (hTB w' hb)
    have h24 := fun w => numInt_dec m hm w
    have hsm2 : (m : Int) % 9007199254740992 = sm := by rw [← hsm, Int.tmod_eq_emod_of_nonneg (by omega)]
    rcases hnan with ⟨h1, h2⟩ | ⟨h1, h2⟩
    · exact back_pos_nan m t f _ _ sm _ w hG (by omega) hsm hsm2 (hx.trans h1) h2 h32 c1 c2 h14 hsh h24 h32b c3 c4 c5
    · exact back_pos m t f _ _ sm _ w hG (by omega) hsm hsm2 (hx.trans h1) h2 h32 c1 c2 h14 hsh h24 h32b c3 c4 c5
end Go.Proofs.YtehakhplglhkdaaGreatDoor
