/- Conversions between ints and floats by number.Convert; number.Int at a numeral. Conditions: as said. -/
import Derived.Test.YtehakhplglhkdaaGreatDoorBackA
import Derived.Lib.ItoaLen
namespace Go.Proofs.YtehakhplglhkdaaGreatDoor
set_option linter.unusedVariables false
open Go.RowKit


theorem toward_ok (F : Nat) (m : Int) (w : World) (h1 : FloatKind.f64.format.order F 14114281232179134464 = some .gt) (h2 : FloatKind.f64.format.order F 4890909195324358656 = some .lt) (h3 : floatToIntVal .f64 F .i64 = some m) :
    Calls Tryz.prog 52 #[.float .f64 F] w fun e w' => e = .returned (.int .i64 m) ∧ w' = w := by
  have hc : ∀ w, (convert 71 3 (.float .f64 F)).run Tryz.prog w = .ok (.int .i64 m) w := fun w => run_convert_float_int w 71 3 .f64 .i64 F m (by kernel_rfl) Tryz.underlying3 h3
  clear h3
  go_enter Tryz.func52, Tryz.ntmps52
  go_wp2
  go_returns
  exact ⟨rfl, rfl⟩
set_option maxRecDepth 200000 in
set_option maxHeartbeats 2000000 in
theorem conv_fi (t u : ByteArray) (F m : Int) (w : World) (hT : ∀ w, Calls Tryz.prog 52 #[.float .f64 F.toNat] w fun e w' => e = .returned (.int .i64 m) ∧ w' = w) :
    Calls Tryz.prog 20 #[.int .i64 2, .string u, (mk 3 t 0 F ⟨#[]⟩).val] w fun e w' => e = .returned (.tuple #[(mk 2 u m 0 ⟨#[]⟩).val, .nilIface]) ∧ Below w.heap.size w w' := by
  unfold mk Dat.val
  go_enter Tryz.func20, Tryz.ntmps20
  go_wp2_with (first | (go_at_call 52; refine (hT _).mono ?_; rintro en w2 ⟨rfl, rfl⟩; clear hT))
  go_returns
  exact ⟨rfl, by go_grown⟩
set_option maxRecDepth 200000 in
set_option maxHeartbeats 2000000 in
theorem conv_if (t u : ByteArray) (n : Int) (w : World) :
    Calls Tryz.prog 20 #[.int .i64 3, .string u, (mk 2 t n 0 ⟨#[]⟩).val] w fun e w' => e = .returned (.tuple #[(mk 3 u 0 (fixNan (floatOfInt .f64 n)) ⟨#[]⟩).val, .nilIface]) ∧ Below w.heap.size w w' := by
  have HF := Lib.hid fun w => float_any u (floatOfInt .f64 n) w
  generalize (fixNan (floatOfInt .f64 n)) = r at *
  unfold mk Dat.val at *
  go_enter Tryz.func20, Tryz.ntmps20
  go_wp2_with (first
    | (go_at_call 36; refine (HF.out _).mono ?_; rintro en w2 ⟨rfl, hb⟩
       have R2 : Hid (Row w2 (w.heap.size + 1) 28 zeroC) := ((row_atOne w _ 28 zeroC).alloc _).below hb (by simp <;> omega)
       have B2 : Hid (Below w.heap.size w w2) := below_more (below3 w _ _ _) hb (by simp <;> omega)
       clear hb HF)
    | (refine put_dat (.tmp 6) (.tmp 79) (w.heap.size + 1) zeroC (mk 3 u 0 r ⟨#[]⟩).cells _ rfl rfl rfl rfl R2.out rfl rfl rfl ?_; intro w5 hr5 hb5 hf5
       have B5 : Hid (Below w.heap.size w w5) := B2.out.trans (hb5 _ (by omega))
       have R5 := Lib.hid hr5
       clear B2 R2 hb5 hr5 hf5))
  exact bodyPost_ret (ret_ct rfl _ _ (w.heap.size + 1) _ rfl R5.out rfl) rfl ⟨rfl, B5.out⟩
set_option maxRecDepth 200000 in
set_option maxHeartbeats 2000000 in
theorem conv_ff (t u : ByteArray) (f : Int) (w : World) :
    Calls Tryz.prog 20 #[.int .i64 3, .string u, (mk 3 t 0 f ⟨#[]⟩).val] w fun e w' => e = .returned (.tuple #[(mk 3 u 0 (fixNan f.toNat) ⟨#[]⟩).val, .nilIface]) ∧ Below w.heap.size w w' := by
  have HF := Lib.hid fun w => float_any u f.toNat w
  generalize (fixNan f.toNat) = r at *
  unfold mk Dat.val at *
  go_enter Tryz.func20, Tryz.ntmps20
  go_wp2_with (first
    | (go_at_call 36; refine (HF.out _).mono ?_; rintro en w2 ⟨rfl, hb⟩
       have R2 : Hid (Row w2 (w.heap.size + 1) 28 zeroC) := ((row_atOne w _ 28 zeroC).alloc _).below hb (by simp <;> omega)
       have B2 : Hid (Below w.heap.size w w2) := below_more (below3 w _ _ _) hb (by simp <;> omega)
       clear hb HF)
    | (refine put_dat (.tmp 6) (.tmp 46) (w.heap.size + 1) zeroC (mk 3 u 0 r ⟨#[]⟩).cells _ rfl rfl rfl rfl R2.out rfl rfl rfl ?_; intro w5 hr5 hb5 hf5
       have B5 : Hid (Below w.heap.size w w5) := B2.out.trans (hb5 _ (by omega))
       have R5 := Lib.hid hr5
       clear B2 R2 hb5 hr5 hf5))
  exact bodyPost_ret (ret_ct rfl _ _ (w.heap.size + 1) _ rfl R5.out rfl) rfl ⟨rfl, B5.out⟩
set_option maxRecDepth 200000 in
set_option maxHeartbeats 2000000 in
theorem numInt_ok (s : ByteArray) (v : Int) (w : World) (hm : s.size ≤ 9223372036854775806) (hv : Lib.atoiAll s.data.toList = .ok v) (hd : ∀ w, Calls Tryz.prog 55 #[.string s] w fun e w' => e = .returned (.bool true) ∧ w' = w) :
    Calls Tryz.prog 24 #[.string s] w fun e w' => e = .returned (.tuple #[(mk 2 sInt v 0 ⟨#[]⟩).val, .bool true]) ∧ Below w.heap.size w w' := by
  have HA := Lib.hid fun w => Tryz.strconv_Atoi_ok s hm v hv w
  have HD := Lib.hid hd
  have HW := Lib.hid fun w => whole_any ⟨#[105, 110, 116]⟩ v w
  have HB := Lib.hid (below1 w (.cells zeroC.toArray 28))
  clear hv hd hm
  unfold mk sInt Dat.val
  unfold mk Dat.val at HW
  go_enter Tryz.func24, Tryz.ntmps24
  go_wp2_with (first
    | (go_at_call 54; refine (HA.out _).mono ?_; rintro en w2 ⟨rfl, hw2⟩
       have hb2 : Below (w.alloc (.cells zeroC.toArray 28)).heap.size (w.alloc (.cells zeroC.toArray 28)) w2 := by
         rcases hw2 with rfl | ⟨t, rfl⟩
         · exact Below.refl _ _
         · exact below_bytes _ t
       have B2 : Hid (Below w.heap.size w w2) := below_more HB.out hb2 HB.out.size
       have R2 : Hid (Row w2 w.heap.size 28 zeroC) := (Row.made w 28 zeroC).below hb2 (by simp)
       clear hw2 hb2 HB HA)
    | (go_at_call 55; refine (HD.out _).mono ?_; rintro en w3 ⟨rfl, rfl⟩; clear HD)
    | (go_at_call 35; refine (HW.out _).mono ?_; rintro en w4 ⟨rfl, hb4⟩
       have B4 : Hid (Below w.heap.size w w4) := below_more B2.out hb4 B2.out.size
       have R4 : Hid (Row w4 w.heap.size 28 zeroC) := R2.out.below hb4 R2.out.lt
       clear B2 R2 hb4 HW)
    | (refine put_dat (.tmp 2) (.tmp 20) w.heap.size zeroC (mk 2 ⟨#[105, 110, 116]⟩ v 0 ⟨#[]⟩).cells _ rfl rfl rfl rfl R4.out rfl rfl rfl ?_; intro w5 hr5 hb5 _
       have B5 : Hid (Below w.heap.size w w5) := B4.out.trans (hb5 _ (Nat.le_refl _))
       have R5 := Lib.hid hr5
       clear B4 R4 hb5 hr5))
  exact bodyPost_ret (ret_ct rfl _ _ w.heap.size _ rfl R5.out rfl) rfl ⟨rfl, B5.out⟩
theorem numInt_dec (n : Nat) (hn : n < 9223372036854775808) (w : World) :
    Calls Tryz.prog 24 #[.string ⟨(Lib.decDigits n).toArray⟩] w fun e w' => e = .returned (.tuple #[(mk 2 sInt (n : Int) 0 ⟨#[]⟩).val, .bool true]) ∧ Below w.heap.size w w' := by
  have hd : (⟨(Lib.decDigits n).toArray⟩ : ByteArray).data.toList = Lib.decDigits n := by simp
  have hs : (⟨(Lib.decDigits n).toArray⟩ : ByteArray).size = (Lib.decDigits n).length := by show (Lib.decDigits n).toArray.size = _; simp
  have hlen : (Lib.decDigits n).length ≤ 100 := by
    rw [Lib.decDigits_length]
    have := Lib.nDigits_le20 n (by omega)
    omega
  have hpos : 0 < (Lib.decDigits n).length := List.length_pos_iff.2 (dec_ne n)
  have hget : ∀ (i : Nat) (h : i < (⟨(Lib.decDigits n).toArray⟩ : ByteArray).size), (⟨(Lib.decDigits n).toArray⟩ : ByteArray)[i] = (Lib.decDigits n)[i]'(by rw [← hs]; exact h) := fun i h => by
    show (Lib.decDigits n).toArray[i] = _
    simp
  refine numInt_ok _ _ w (by rw [hs]; omega) (by rw [hd]; exact atoi_dec n hn) fun w => digits_ok _ w (by rw [hs]; omega) (fun i h => ?_) (by rw [hs]; exact hpos) ?_
  · rw [hget i h]
    exact dec_all n _ (List.getElem_mem _)
  · by_cases h0 : n = 0
    · left
      rw [hs, h0, Lib.decDigits_one (by omega)]
      rfl
    · right
      rw [hget 0 _]
      obtain ⟨c, r, e, hc⟩ := dec_head n h0
      simp only [e, List.getElem_cons_zero]
      exact hc
end Go.Proofs.YtehakhplglhkdaaGreatDoor
