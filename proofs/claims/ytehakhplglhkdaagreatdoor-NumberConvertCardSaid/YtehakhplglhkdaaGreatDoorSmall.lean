/- number.Int at 120, number.Show, told, Unary and Convert of ints. No condition. -/
import Derived.Test.YtehakhplglhkdaaGreatDoorFloat15
import Derived.Test.YtehakhplglhkdaaGreatDoorPut
namespace Go.Proofs.YtehakhplglhkdaaGreatDoor
set_option linter.unusedVariables false
open Go.RowKit

@[go_sem] theorem assert64 (v : Value) (w : World) : (Instr.typeAssert (.iface 64 v) 31 64 true).run Tryz.prog w = .ok (.tuple #[v, .bool true]) w := by kernel_rfl
@[go_sem] theorem assertNil (w : World) : (Instr.typeAssert .nilIface 31 64 true).run Tryz.prog w = .ok (.tuple #[.pointer none, .bool false]) w := by kernel_rfl
theorem below_bytes (w : World) (t : ByteArray) : Below w.heap.size w (Lib.bytesWorld w 5 t) :=
  ⟨rfl, rfl, rfl, by rw [Lib.bytesWorld_size]; omega, fun k hk => Lib.bytesWorld_at_old w 5 t k hk⟩
set_option maxRecDepth 200000 in
set_option maxHeartbeats 1000000 in
theorem numInt120 (w : World) :
    Calls Tryz.prog 24 #[.string ⟨#[49, 50, 48]⟩] w fun e w' => e = .returned (.tuple #[(mk 2 ⟨#[105, 110, 116]⟩ 120 0 ⟨#[]⟩).val, .bool true]) ∧ Below w.heap.size w w' := by
  have ha := Tryz.strconv_Atoi_ok ⟨#[49, 50, 48]⟩ (by decide) 120 (by decide)
  have HB := Lib.hid (below1 w (.cells zeroC.toArray 28))
  go_enter Tryz.func24, Tryz.ntmps24
  go_wp2_with (first
    | (go_at_call 54; refine (ha _).mono ?_; rintro en w2 ⟨rfl, hw2⟩
       have hb2 : Below (w.alloc (.cells zeroC.toArray 28)).heap.size (w.alloc (.cells zeroC.toArray 28)) w2 := by
         rcases hw2 with rfl | ⟨t, rfl⟩
         · exact Below.refl _ _
         · exact below_bytes _ t
       have hr2 : Row w2 w.heap.size 28 zeroC := (Row.made w 28 zeroC).below hb2 (by simp)
       have hB2 := Lib.hid (below_more HB.out hb2 HB.out.size)
       have hR2 := Lib.hid hr2
       clear hw2 hb2 hr2 HB)
    | (go_at_call 55; refine (digits120 _).mono ?_; rintro en w3 ⟨rfl, rfl⟩)
    | (go_at_call 35; refine (whole_any _ _ _).mono ?_; rintro en w4 ⟨rfl, hb4⟩
       have hB4 := Lib.hid (below_more hB2.out hb4 hB2.out.size)
       have hR4 : Hid (Row w4 w.heap.size 28 zeroC) := hR2.out.below hb4 hR2.out.lt
       clear hB2 hR2 hb4)
    | (refine put_dat (.tmp 2) (.tmp 20) w.heap.size zeroC (mk 2 ⟨#[105, 110, 116]⟩ 120 0 ⟨#[]⟩).cells w4 rfl rfl rfl rfl hR4.out rfl rfl rfl ?_; intro w5 hr5 hb5 _
       have hB5 := Lib.hid (hB4.out.trans (hb5 _ (Nat.le_refl _)))
       have hR5 := Lib.hid hr5
       clear hB4 hR4 hb5 hr5))
  refine bodyPost_ret (ret_ct rfl _ _ w.heap.size _ rfl hR5.out rfl) rfl ⟨rfl, hB5.out⟩
theorem itoa5 : (Lib.decDigits 5) = [53] := by rw [Lib.decDigits_one (by omega)]; rfl
theorem show5 (w : World) :
    Calls Tryz.prog 33 #[(mk 2 ⟨#[84]⟩ 5 0 ⟨#[]⟩).val] w fun e w' => e = .returned (.string ⟨#[84, 40, 53, 41]⟩) ∧ Below w.heap.size w w' := by
  have ha := Tryz.strconv_Itoa_small 5 (by omega)
  rw [itoa5] at ha
  unfold mk Dat.val
  go_enter Tryz.func33, Tryz.ntmps33
  go_wp2_with (first
    | (go_at_call 59; refine (ha _).mono ?_; rintro en w2 ⟨rfl, rfl⟩))
  go_returns
  exact ⟨rfl, by go_grown⟩
@[go_sem ↓] theorem eq35 (a b a' b' : ByteArray) (w : World) :
    (Op.equalIn 10000 35 (.agg #[.string a, .string b]) (.agg #[.string a', .string b'])).run Tryz.prog w = .ok (a.toList == a'.toList && b.toList == b'.toList) w := by
  have hS : Tryz.prog.underlying 35 = some (.struct (Tryz.prog.fieldsOf 35)) := by kernel_rfl
  rw [show (10000 : Nat) = 9999 + 1 from rfl, run_equalIn_agg w 9999 35 _ _ hS Tryz.stoodInHeld35]
  simp only [Program.fieldsOf, Tryz.underlying35]
  simp [go_sem]
  by_cases h1 : a.toList = a'.toList <;> by_cases h2 : b.toList = b'.toList <;> simp [h1, h2]
set_option maxRecDepth 200000 in
set_option maxHeartbeats 1000000 in
theorem told_fault (g : Nat) (x y x' y' : ByteArray) (w : World) (hg : Row w g 35 [.string x, .string y]) (hx : (x'.toList == []) = false) :
    Calls Tryz.prog 15 #[.iface 64 (.pointer (some ⟨g, 0, none⟩)), .agg #[.string x', .string y']] w fun e w' => e = .returned (.bool (x.toList == x'.toList && y.toList == y'.toList)) ∧ Below w.heap.size w w' := by
  have c0 := hg.cell 0
  have c1 := hg.cell 1
  simp only [List.getElem?_cons_zero, List.getElem?_cons_succ] at c0 c1
  have hlt := hg.lt
  clear hg
  go_enter Tryz.func15, Tryz.ntmps15
  go_wp2
  go_quiet (fail)
  go_wp2
  go_returns
  refine And.intro rfl ?_
  with_reducible refine below_drewN ?_ _
  go_grown
set_option maxRecDepth 200000 in
set_option maxHeartbeats 1000000 in
theorem un_neg (t : ByteArray) (n : Int) (w : World) :
    Calls Tryz.prog 12 #[.string ⟨#[45]⟩, (mk 2 t n 0 ⟨#[]⟩).val] w fun e w' => e = .returned (.tuple #[(mk 2 t (wrap64 (-n)) 0 ⟨#[]⟩).val, .nilIface]) ∧ Below w.heap.size w w' := by
  unfold mk Dat.val
  go_enter Tryz.func12, Tryz.ntmps12
  go_wp2
  go_returns
  exact ⟨rfl, by go_grown⟩
set_option maxRecDepth 200000 in
set_option maxHeartbeats 1000000 in
theorem un_not (t : ByteArray) (n : Int) (w : World) :
    Calls Tryz.prog 12 #[.string ⟨#[94]⟩, (mk 2 t n 0 ⟨#[]⟩).val] w fun e w' => e = .returned (.tuple #[(mk 2 t (bits BinOp.xor .i64 (-1) n) 0 ⟨#[]⟩).val, .nilIface]) ∧ Below w.heap.size w w' := by
  unfold mk Dat.val
  go_enter Tryz.func12, Tryz.ntmps12
  go_wp2
  go_returns
  exact ⟨rfl, by go_grown⟩
set_option maxRecDepth 200000 in
set_option maxHeartbeats 1000000 in
theorem conv_int (t u : ByteArray) (n : Int) (w : World) :
    Calls Tryz.prog 20 #[.int .i64 2, .string u, (mk 2 t n 0 ⟨#[]⟩).val] w fun e w' => e = .returned (.tuple #[(mk 2 u n 0 ⟨#[]⟩).val, .nilIface]) ∧ Below w.heap.size w w' := by
  unfold mk Dat.val
  go_enter Tryz.func20, Tryz.ntmps20
  go_wp2
  go_returns
  exact ⟨rfl, by go_grown⟩
end Go.Proofs.YtehakhplglhkdaaGreatDoor
