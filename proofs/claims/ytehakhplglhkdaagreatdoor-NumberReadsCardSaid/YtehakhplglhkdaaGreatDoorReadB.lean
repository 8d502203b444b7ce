/- What strconv.Atoi reads of the package's variables, and how it ends; number.Int of any text. Condition: the text is not great. -/
import Derived.Test.YtehakhplglhkdaaGreatDoorReadA
import Derived.Test.YtehakhplglhkdaaGreatDoorGlob
import Derived.Test.YtehakhplglhkdaaGreatDoorShelf
import Derived.Shelf.Strconv.AtoiAll
namespace Go.Proofs.YtehakhplglhkdaaGreatDoor
set_option linter.unusedVariables false
open Go.ChangeShapes Go.WideShapes Go.ChangeAt Go.RowKit Go.Deep

/-- nil, or something. -/
def Faced (v : Value) : Prop := v = .nilIface ∨ ∃ te pe, v = .iface te pe
theorem trod_faced {H : Type} {enc : TypeId × Value → H} {P : Program} {w : World} {base : Nat} {spare : Nat → Bool} {held : Bool} {fuel : Nat} {t : TypeId} {cs : List Value} {x : DataW H × List MemPlace} {ms : Array (String × TypeId)}
    (ht : P.underlying t = some (.interface ms)) (h : DataW.trod enc P w base spare held fuel t cs = some x) : ∃ v, cs = [v] ∧ Faced v := by
  cases fuel with
  | zero => simp [DataW.trod] at h
  | succ n =>
    unfold DataW.trod at h
    rw [ht] at h
    split at h <;> first | exact ⟨_, rfl, .inl rfl⟩ | exact ⟨_, rfl, .inr ⟨_, _, rfl⟩⟩ | simp_all
/-- What strconv.Atoi reads: two errors. -/
structure GlobE (w : World) : Prop where
  syn : ∃ v, w.cell? ⟨2, 0, none⟩ = some v ∧ Faced v
  rng : ∃ v, w.cell? ⟨3, 0, none⟩ = some v ∧ Faced v
  size : 4 ≤ w.heap.size
theorem GlobE.below {w w' : World} (h : GlobE w) (hb : Below w.heap.size w w') : GlobE w' := by
  have hs := h.size
  obtain ⟨v, h1, h2⟩ := h.syn
  obtain ⟨u, h3, h4⟩ := h.rng
  exact ⟨⟨v, (hb.cell (p := ⟨2, 0, none⟩) (show 2 < _ by omega)).trans h1, h2⟩, ⟨u, (hb.cell (p := ⟨3, 0, none⟩) (show 3 < _ by omega)).trans h3, h4⟩, Nat.le_trans hs hb.size⟩
theorem g2e : Tryz.prog.globalNamed "strconv.ErrSyntax" = some 2 := by kernel_rfl
theorem g3e : Tryz.prog.globalNamed "strconv.ErrRange" = some 3 := by kernel_rfl
theorem g2t : ((Tryz.prog.globals[2]?).map (·.type)) = some 31 := by kernel_rfl
theorem g3t : ((Tryz.prog.globals[3]?).map (·.type)) = some 31 := by kernel_rfl
theorem faced_of {W : World} {n : String} {d : DataW Unit} {g : Nat} {r : List (String × DataW Unit)} (hg : Tryz.prog.globalNamed n = some g) (ht : (Tryz.prog.globals[g]?).map (·.type) = some 31) (h : laidMet Tryz.prog ((n, d) :: r) W) : ∃ v, W.cell? ⟨g, 0, none⟩ = some v ∧ Faced v := by
  obtain ⟨g', t, cs, fuel, p, hg', ht', hv, hd⟩ := laid_head h
  obtain rfl := Option.some.inj (hg.symm.trans hg')
  obtain rfl := Option.some.inj (ht.symm.trans ht')
  obtain ⟨v, e1, e2⟩ := trod_faced Tryz.underlying31 hd
  refine ⟨v, ?_, e2⟩
  rw [World.var?_cell hg hv 0]
  have : cs.toList[0]? = some v := by rw [e1]; rfl
  simpa using this
theorem bytes_below (w : World) (t : ByteArray) : Below w.heap.size w (Lib.bytesWorld w 5 t) := Lib.bytesWorld_below _ _ _
theorem atoi_any (s : ByteArray) (w : World) (hE : GlobE w) (hlim : s.size ≤ 281474976710656) :
    Calls Tryz.prog 54 #[.string s] w fun e w' => ∃ n v, e = .returned (.tuple #[.int .i64 n, v]) ∧ ((v = .nilIface ∧ Lib.atoiAll s.data.toList = .ok n) ∨ ((∃ N, v = .iface 121 (.pointer (some ⟨N, 0, none⟩))) ∧ ∀ m, Lib.atoiAll s.data.toList ≠ .ok m)) ∧ Below w.heap.size w w' := by
  obtain ⟨ev, hv, hev⟩ := hE.syn
  obtain ⟨ew, hw, hew⟩ := hE.rng
  cases h : Lib.atoiAll s.data.toList with
  | ok v =>
    refine (Tryz.strconv_Atoi_ok s (by omega) v h w).mono ?_
    rintro e w' ⟨rfl, hw'⟩
    refine ⟨v, .nilIface, rfl, .inl ⟨rfl, rfl⟩, ?_⟩
    rcases hw' with rfl | ⟨t, rfl⟩
    · exact Below.refl _ _
    · exact bytes_below _ _
  | range =>
    refine (Tryz.strconv_Atoi_range s hlim h ew w hw hew).mono ?_
    rintro e w' ⟨N, rfl, _, _, hb⟩
    exact ⟨_, _, rfl, .inr ⟨⟨N, rfl⟩, fun m hm => by cases hm⟩, hb⟩
  | _ =>
    refine (Any.strconv_Atoi_syntax Tryz.laysC172 s hlim h ev w hv hev).mono ?_
    rintro e w' ⟨N, rfl, _, _, hb⟩
    exact ⟨_, _, rfl, .inr ⟨⟨N, rfl⟩, fun m hm => by cases hm⟩, hb⟩
theorem dig_int {l : List UInt8} (h : Dig l) (h2 : spell l 0 < 9223372036854775808) {n : Int} (e : Lib.atoiAll l = .ok n) : n = (spell l 0 : Int) := by
  rw [atoi_digits h, if_pos h2] at e
  injection e with e
  exact e.symm
set_option maxRecDepth 200000 in
set_option maxHeartbeats 4000000 in
theorem numint_any (s : ByteArray) (r : Bool) (w : World) (hE : GlobE w) (hlim : s.size ≤ 281474976710656) (hr : r = true ↔ Dig s.data.toList ∧ spell s.data.toList 0 < 9223372036854775808) :
    Calls Tryz.prog 24 #[.string s] w fun e w' => e = .returned (intOut r (spell s.data.toList 0)) ∧ Below w.heap.size w w' := by
  have HA := Lib.hid fun w (hE : GlobE w) => atoi_any s w hE hlim
  have HE := Lib.hid hE
  have HB := Lib.hid (below1 w (.cells zeroC.toArray 28))
  by_cases hd : Dig s.data.toList
  · have HD := Lib.hid fun w => digits_any s true w (by omega) ⟨fun _ => hd, fun _ => rfl⟩
    by_cases hv : spell s.data.toList 0 < 9223372036854775808
    · obtain rfl : r = true := hr.2 ⟨hd, hv⟩
      have hok := atoi_digits hd
      rw [if_pos hv] at hok
      have HK : Hid (∀ n : Int, Lib.atoiAll s.data.toList = .ok n → n = (spell s.data.toList 0 : Int)) := Lib.hid (fun n e => dig_int hd hv e)
      have HK2 : Hid (Lib.atoiAll s.data.toList = .ok (spell s.data.toList 0 : Int)) := hok
      clear hok hv hr hd hE
      unfold intOut
      rw [if_pos rfl]
      generalize spell s.data.toList 0 = V at *
      have HW := Lib.hid fun w => whole_any ⟨#[105, 110, 116]⟩ (V : Int) w
      unfold mk Dat.val at HW
      unfold mk Dat.val
      go_enter Tryz.func24, Tryz.ntmps24
      go_wp2_with (first
        | (go_at_call 54; refine (HA.out _ ?hg).mono ?_
           case hg => exact HE.out.below HB.out
           rintro en w2 ⟨n, v, rfl, hnv, hb⟩
           obtain ⟨rfl, hn⟩ : v = .nilIface ∧ n = (V : Int) := by
             rcases hnv with ⟨h1, h2⟩ | ⟨_, h2⟩
             · exact ⟨h1, HK.out _ h2⟩
             · exact absurd HK2.out (h2 _)
           subst hn
           have B2 : Hid (Below w.heap.size w w2) := below_more HB.out hb HB.out.size
           have R2 : Hid (Row w2 w.heap.size 28 zeroC) := (Row.made w 28 zeroC).below hb (by simp)
           clear hb hnv HA HB)
        | (go_at_call 55; refine (HD.out _).mono ?_; rintro en w3 ⟨rfl, rfl⟩; clear HD)
        | (go_at_call 35; refine (HW.out _).mono ?_; rintro en w4 ⟨rfl, hb4⟩
           have B4 : Hid (Below w.heap.size w w4) := below_more B2.out hb4 B2.out.size
           have R4 : Hid (Row w4 w.heap.size 28 zeroC) := R2.out.below hb4 R2.out.lt
           clear B2 R2 hb4 HW)
        | (refine put_dat (.tmp 2) (.tmp 20) w.heap.size zeroC (mk 2 ⟨#[105, 110, 116]⟩ (V : Int) 0 ⟨#[]⟩).cells _ rfl rfl rfl rfl R4.out rfl rfl rfl ?_; intro w5 hr5 hb5 _
           have B5 : Hid (Below w.heap.size w w5) := B4.out.trans (hb5 _ (Nat.le_refl _))
           have R5 := Lib.hid hr5
           clear B4 R4 hb5 hr5))
      exact bodyPost_ret (ret_ct rfl _ _ w.heap.size _ rfl R5.out rfl) rfl ⟨rfl, B5.out⟩
    · obtain rfl : r = false := by
        cases r with
        | false => rfl
        | true => exact absurd (hr.1 rfl).2 hv
      have hok := atoi_digits hd
      rw [if_neg hv] at hok
      have HK : Hid (∀ n : Int, Lib.atoiAll s.data.toList ≠ .ok n) := Lib.hid (fun n e => by rw [hok] at e; cases e)
      clear hok hv hr hd hE
      unfold intOut
      rw [if_neg (by simp)]
      unfold mk Dat.val
      go_enter Tryz.func24, Tryz.ntmps24
      go_wp2_with (first
        | (go_at_call 54; refine (HA.out _ ?hg).mono ?_
           case hg => exact HE.out.below HB.out
           rintro en w2 ⟨n, v, rfl, hnv, hb⟩
           obtain ⟨N, rfl⟩ : ∃ N, v = .iface 121 (.pointer (some ⟨N, 0, none⟩)) := by
             rcases hnv with ⟨_, h2⟩ | ⟨h1, _⟩
             · exact absurd h2 (HK.out _)
             · exact h1
           have B2 : Hid (Below w.heap.size w w2) := below_more HB.out hb HB.out.size
           have R2 : Hid (Row w2 w.heap.size 28 zeroC) := (Row.made w 28 zeroC).below hb (by simp)
           clear hb hnv HA HB)
        | (go_at_call 55; refine (HD.out _).mono ?_; rintro en w3 ⟨rfl, rfl⟩; clear HD)
        | (refine put_dat (.tmp 2) (.tmp 18) w.heap.size zeroC zeroC _ rfl rfl rfl rfl R2.out rfl rfl rfl ?_; intro w5 hr5 hb5 _
           have B5 : Hid (Below w.heap.size w w5) := B2.out.trans (hb5 _ (Nat.le_refl _))
           have R5 := Lib.hid hr5
           clear B2 R2 hb5 hr5))
      exact bodyPost_ret (ret_ct rfl _ _ w.heap.size _ rfl R5.out rfl) rfl ⟨rfl, B5.out⟩
  · have HD := Lib.hid fun w => digits_any s false w (by omega) ⟨fun h => absurd h (by simp), fun h => absurd h hd⟩
    obtain rfl : r = false := by
      cases r with
      | false => rfl
      | true => exact absurd (hr.1 rfl).1 hd
    clear hr hd hE
    unfold intOut
    rw [if_neg (by simp)]
    unfold mk Dat.val
    go_enter Tryz.func24, Tryz.ntmps24
    go_wp2_with (first
      | (go_at_call 54; refine (HA.out _ ?hg).mono ?_
         case hg => exact HE.out.below HB.out
         rintro en w2 ⟨n, v, rfl, hnv, hb⟩
         have B2 : Hid (Below w.heap.size w w2) := below_more HB.out hb HB.out.size
         have R2 : Hid (Row w2 w.heap.size 28 zeroC) := (Row.made w 28 zeroC).below hb (by simp)
         clear hb hnv HA HB)
      | (go_at_call 55; refine (HD.out _).mono ?_; rintro en w3 ⟨rfl, rfl⟩; clear HD)
      | (refine put_dat (.tmp 2) (.tmp 18) w.heap.size zeroC zeroC _ rfl rfl rfl rfl R2.out rfl rfl rfl ?_; intro w5 hr5 hb5 _
         have B5 : Hid (Below w.heap.size w w5) := B2.out.trans (hb5 _ (Nat.le_refl _))
         have R5 := Lib.hid hr5
         clear B2 R2 hb5 hr5))
    exact bodyPost_ret (ret_ct rfl _ _ w.heap.size _ rfl R5.out rfl) rfl ⟨rfl, B5.out⟩
end Go.Proofs.YtehakhplglhkdaaGreatDoor
