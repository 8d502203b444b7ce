/- Texts of this proof, put together: WalkD, HeapA, HeapB, HeapC. -/
import Derived.Test.YtmecmlpoallpcaaGreatDoorM08
import Derived.Test.YtmecmlpoallpcaaGreatDoorM04
import Derived.Deep.QuietTactic
import Derived.BigQuiet
import Derived.RegionTactic
import Derived.Deep.RegionLaw
set_option linter.unusedSimpArgs false
/- peep.without: some left out. Condition: the code is right but for the stack. -/
namespace Go.Proofs.YtmecmlpoallpcaaGreatDoor
set_option linter.unusedVariables false
open Go.RowKit Go.Proofs.PeepPlain

theorem bool_tt {w : World} {g k : Nat} {is : List Bool} (h : Row w g 4 (boolC is)) (hk : k < is.length) : w.cell? ⟨g, k, none⟩ = some (.bool (is.getD k true)) := by
  rw [h.cell]
  unfold boolC
  rw [List.getElem?_map, List.getElem?_eq_getElem hk, List.getD_eq_getElem?_getD, List.getElem?_eq_getElem hk]
  rfl
theorem toIdx_le (out : List Bool) (k : Nat) : toIdx out k ≤ k := by
  unfold toIdx kept
  have := List.length_filter_le (fun k => !out.getD k true) (List.range k)
  rwa [List.length_range] at this
set_option maxRecDepth 200000 in
set_option maxHeartbeats 8000000 in
theorem without_walk (l : List Ins) (out : List Bool) (A : Option Addr) (c go co : Nat) (w : World) (W : WF l) (hA : InsAt w A l) (hO : Row w go 4 (boolC out)) (hlo : out.length = l.length) (hl : l.length ≤ 100000) :
    Calls Tryz.prog 56 #[.slice A l.length c, .slice (some ⟨go, 0, none⟩) l.length co] w fun e w' => ∃ v, e = .returned v ∧ OwnP w.heap.size w' v (PeepPlain.without l out) ∧ Below w.heap.size w w' := by
  have hmk : (Instr.makeSlice 44 (.int .i64 ((l.length : Int) + 1)) (.int .i64 ((l.length : Int) + 1))).run Tryz.prog w = .ok (.slice (some ⟨w.heap.size, 0, none⟩) (l.length + 1) (l.length + 1)) (w.alloc (.cells (intC (List.replicate (l.length + 1) 0)).toArray 3)) := make_ints (l.length + 1) (by omega) w
  have hwr : wrap64 ((l.length : Int) + 1) = (l.length : Int) + 1 := by
    unfold wrap64
    omega
  have HA := Lib.hid hA
  have HW := Lib.hid W
  have HO := Lib.hid hO
  have HA0 := Lib.hid hA.old
  have HO0 := Lib.hid hO.lt
  clear hA W hO
  go_enter Tryz.func56, Tryz.ntmps56
  go_wp2_with fail
  go_loopw [6, 7, 17] (fun nn z v wr => ∃ k : Nat, v = .int .i64 k ∧ nn = .int .i64 (toIdx out k : Int) ∧ k ≤ l.length ∧ Hid (Row wr w.heap.size 3 (intC (toL out k (l.length + 1)))) ∧ Hid (Below w.heap.size w wr)) (fun _ _ v _ => l.length - (intOf v).toNat)
  case atStart => exact ⟨0, rfl, rfl, Nat.zero_le _, by rw [toL_zero]; exact Row.made _ _ _, below1 w _⟩
  case round =>
    clear hmk
    rename World => w2
    obtain ⟨k, rfl, rfl, hk, HT, HB⟩ := hrel
    by_cases hlt : k < l.length
    · have hi : (0 : Int) ≤ (k : Int) ∧ (k : Int) < (l.length : Int) := by omega
      have hi2 : (0 : Int) ≤ (k : Int) ∧ (k : Int) < ((l.length + 1 : Nat) : Int) := by omega
      have hb := bool_tt (HO.out.below HB.out HO0.out) (show k < out.length by omega)
      have hfz := HT.out.free k
      have hct := int_at HT.out (show k < (toL out k (l.length + 1)).length by rw [toL_length]; omega)
      have hgl := HT.out.lt
      have HT2 : Hid (Row (w2.setCell ⟨w.heap.size, k, none⟩ (.int .i64 (toIdx out k : Int))) w.heap.size 3 (intC (toL out (k + 1) (l.length + 1)))) := Lib.hid (by
        rw [← toL_set, intC_set]; exact HT.out.set _ _)
      have hgo : go ≠ w.heap.size := by have := HO0.out; omega
      have HB2 : Hid (Below w.heap.size w (w2.setCell ⟨w.heap.size, k, none⟩ (.int .i64 (toIdx out k : Int)))) := Lib.hid (Below.setCell (p := ⟨w.heap.size, k, none⟩) HB.out (Nat.le_refl _) _)
      cases ho : out.getD k true with
      | true =>
        rw [ho] at hb
        have HS := Lib.hid (toIdx_succ_out ho)
        go_wp2_with fail
        go_roundw
        case rel => exact ⟨k + 1, by go_num, by rw [HS.out], by omega, HT2, HB2⟩
        case measure => simp [intOf]; omega
      | false =>
        rw [ho] at hb
        have HS := Lib.hid (toIdx_succ_in ho)
        have hti := toIdx_le out k
        go_wp2_with fail
        go_roundw
        case rel => exact ⟨k + 1, by go_num, by rw [HS.out]; go_num, by omega, HT2, HB2⟩
        case measure => simp [intOf]; omega
    · obtain rfl : k = l.length := by omega
      clear hlt hk
      have hi2 : (0 : Int) ≤ (l.length : Int) ∧ (l.length : Int) < ((l.length + 1 : Nat) : Int) := by omega
      have hfz := HT.out.free l.length
      have hct := int_at HT.out (show l.length < (toL out l.length (l.length + 1)).length by rw [toL_length]; omega)
      have hgl := HT.out.lt
      have HT2 : Hid (Row (w2.setCell ⟨w.heap.size, l.length, none⟩ (.int .i64 (toIdx out l.length : Int))) w.heap.size 3 (intC (toL out (l.length + 1) (l.length + 1)))) := Lib.hid (by
        rw [← toL_set, intC_set]; exact HT.out.set _ _)
      have HB2 : Hid (Below w.heap.size w (w2.setCell ⟨w.heap.size, l.length, none⟩ (.int .i64 (toIdx out l.length : Int)))) := Lib.hid (Below.setCell (p := ⟨w.heap.size, l.length, none⟩) HB.out (Nat.le_refl _) _)
      clear HT HB
      go_wp2_with fail
      generalize w2.setCell ⟨w.heap.size, l.length, none⟩ (.int .i64 (toIdx out l.length : Int)) = w3 at HT2 HB2 ⊢
      clear hfz hct hgl hi2
      go_loopw [8, 9, 10, 39] (fun v z1 z2 kk wr => ∃ k : Nat, kk = .int .i64 k ∧ k ≤ l.length ∧ Hid (OwnP (w.heap.size + 1) wr v (leftTo l out k)) ∧ Hid (Below (w.heap.size + 1) w3 wr)) (fun _ _ _ v _ => l.length - (intOf v).toNat)
      case atStart => exact ⟨0, rfl, Nat.zero_le _, by rw [leftTo_zero]; exact OwnP.nil _ _, Below.refl _ _⟩
      case round =>
        clear w2
        rename World => w4
        obtain ⟨k, rfl, hk, HV, HB⟩ := hrel
        by_cases hlt : k < l.length
        · have hi : (0 : Int) ≤ (k : Int) ∧ (k : Int) < (l.length : Int) := by omega
          have HBT := Lib.hid (HB2.out.trans (below_low HB.out (Nat.le_succ _)))
          have hb := bool_tt (HO.out.below HBT.out HO0.out) (show k < out.length by omega)
          have HS := Lib.hid HB.out.size
          have HZ := Lib.hid (show w.heap.size + 1 ≤ w4.heap.size by have := HB.out.size; have := HT2.out.lt; omega)
          obtain ⟨b, off, rfl, hbl, hc⟩ := (HA.out.below HBT.out).at_ (by omega)
          obtain ⟨c0, c1, c2, c3, c4⟩ := hc k hlt
          have hbl2 : b < w.heap.size := HA0.out (by omega) _ rfl
          have hbn : b ≠ w4.heap.size := by omega
          have hgn : go ≠ w4.heap.size := by have := HO0.out; have := HZ.out; omega
          have hgl : go < w4.heap.size := by have := HO0.out; have := HZ.out; omega
          have hwl : w.heap.size < w4.heap.size := by have := HZ.out; omega
          have hwn : w.heap.size ≠ w4.heap.size := by have := HZ.out; omega
          clear hc
          cases ho : out.getD k true with
          | true =>
            rw [ho] at hb
            have HL := Lib.hid (leftTo_out (l := l) ho)
            go_wp2_with fail
            go_roundw
            case rel => exact ⟨k + 1, by go_num, by omega, by rw [HL.out]; exact HV.out.alloc _, HB.out.alloc HZ.out _⟩
            case measure => simp [intOf]; omega
          | false =>
            rw [ho] at hb
            have HL := Lib.hid (leftTo_in (l := l) ho)
            have HN : Hid ((leftTo l out k).length ≤ 2000000) := Lib.hid (by rw [leftTo_length]; have := toIdx_le out k; omega)
            by_cases hj : jumps (opAt l k)
            · have hjj : jumps l[k].op := by rw [← op_get hlt]; exact hj
              have ha := a_get hlt (HW.out.low k hlt hj)
              have hh := HW.out.high k hlt hj
              have HM : Hid (moved out (l.getD k default) = ⟨l[k].op, (toIdx out (aAt l k) : Int), l[k].b, l[k].text, l[k].pos⟩) := Lib.hid (by
                unfold moved
                rw [ins_get hlt, if_pos hjj, ha]
                simp)
              rw [ha] at c1
              have hti : (0 : Int) ≤ (aAt l k : Int) ∧ (aAt l k : Int) < ((l.length + 1 : Nat) : Int) := by omega
              have hct := int_at (HT2.out.below HB.out (Nat.lt_succ_self _)) (show aAt l k < (toL out (l.length + 1) (l.length + 1)).length by rw [toL_length]; omega)
              rw [toL_get, if_pos (by omega)] at hct
              have hd : decide (jumps l[k].op) = true := decide_eq_true hjj
              clear hj hjj ha
              go_wp2_with (first
                | (go_at_call 88; refine (jumps_walk _ _).mono ?_; rintro en w5 ⟨rfl, rfl⟩)
                | (at_builtin; refine put_p (.tmp 57) (.tmp 59) (w.heap.size + 1) _ (leftTo l out k) ⟨l[k].op, (toIdx out (aAt l k) : Int), l[k].b, l[k].text, l[k].pos⟩ _ _ rfl rfl rfl (HV.out.alloc _) rfl _ rfl (by simp) HN.out (by have := HZ.out; simp; omega) ?_; intro v6 w6 ho6 hb6))
              have R6 : Hid (OwnP (w.heap.size + 1) w6 v6 (leftTo l out (k + 1))) := Lib.hid (by rw [HL.out, HM.out]; exact ho6)
              have B6 := Lib.hid ((HB.out.alloc HZ.out _).trans hb6)
              go_roundw
              case rel => exact ⟨k + 1, by go_num, by omega, R6, B6⟩
              case measure => simp [intOf]; omega
            · have hjj : ¬ jumps l[k].op := by rw [← op_get hlt]; exact hj
              have HM : Hid (moved out (l.getD k default) = ⟨l[k].op, l[k].a, l[k].b, l[k].text, l[k].pos⟩) := Lib.hid (by
                unfold moved
                rw [ins_get hlt, if_neg hjj])
              have hd : decide (jumps l[k].op) = false := decide_eq_false hjj
              clear hj hjj
              go_wp2_with (first
                | (go_at_call 88; refine (jumps_walk _ _).mono ?_; rintro en w5 ⟨rfl, rfl⟩)
                | (at_builtin; refine put_p (.tmp 57) (.tmp 59) (w.heap.size + 1) _ (leftTo l out k) ⟨l[k].op, l[k].a, l[k].b, l[k].text, l[k].pos⟩ _ _ rfl rfl rfl (HV.out.alloc _) rfl _ rfl (by simp) HN.out (by have := HZ.out; simp; omega) ?_; intro v6 w6 ho6 hb6))
              have R6 : Hid (OwnP (w.heap.size + 1) w6 v6 (leftTo l out (k + 1))) := Lib.hid (by rw [HL.out, HM.out]; exact ho6)
              have B6 := Lib.hid ((HB.out.alloc HZ.out _).trans hb6)
              go_roundw
              case rel => exact ⟨k + 1, by go_num, by omega, R6, B6⟩
              case measure => simp [intOf]; omega
        · obtain rfl : k = l.length := by omega
          clear hlt hk
          have hV := HV.out
          rw [leftTo_all] at hV
          replace HV := Lib.hid hV
          clear hV
          have HBB := Lib.hid (HB2.out.trans (below_low HB.out (Nat.le_succ _)))
          go_wp2_with fail
          go_ret
          exact ⟨_, rfl, HV.out.low (Nat.le_succ _), HBB.out⟩
end Go.Proofs.YtmecmlpoallpcaaGreatDoor

/- code.row's methods: Len, Less, Swap, Push, Pop, on a row of ints that is the call's own. -/
namespace Go.Proofs.YtmecmlpoallpcaaGreatDoor
set_option linter.unusedVariables false
open Go.RowKit Go.Proofs.PeepPlain

/-! ### Only some blocks are written -/
/-- Of what was there only the blocks of S have turned. -/
structure Only (S : List Nat) (w w' : World) : Prop where
  os : w'.os = w.os
  tape : w'.tape = w.tape
  output : w'.output = w.output
  size : w.heap.size ≤ w'.heap.size
  block : ∀ k, k < w.heap.size → k ∉ S → w'.heap[k]? = w.heap[k]?
section
variable {S T : List Nat} {a b c w w' : World}
theorem Only.refl (S : List Nat) (w : World) : Only S w w := ⟨rfl, rfl, rfl, Nat.le_refl _, fun _ _ _ => rfl⟩
theorem Only.trans (h : Only S a b) (k : Only T b c) (hT : ∀ x ∈ T, x ∈ S ∨ a.heap.size ≤ x) : Only S a c :=
  ⟨k.os.trans h.os, k.tape.trans h.tape, k.output.trans h.output, Nat.le_trans h.size k.size, fun i hi hs =>
    (k.block i (Nat.lt_of_lt_of_le hi h.size) (fun ht => by
      rcases hT i ht with h1 | h1
      · exact hs h1
      · omega)).trans (h.block i hi hs)⟩
theorem Only.mono (h : Only S a b) (hS : ∀ x ∈ S, x ∈ T) : Only T a b := ⟨h.os, h.tape, h.output, h.size, fun k hk ht => h.block k hk (fun hs => ht (hS k hs))⟩
theorem Only.below {B : Nat} (h : Only S a b) (hS : ∀ x ∈ S, B ≤ x) (hB : B ≤ a.heap.size) : Below B a b :=
  ⟨h.os, h.tape, h.output, h.size, fun k hk => h.block k (by omega) (fun hs => by have := hS k hs; omega)⟩
theorem Only.ofBelow (h : Below a.heap.size a b) : Only S a b := ⟨h.os, h.tape, h.output, h.size, fun k hk _ => h.block k hk⟩
theorem Only.alloc (h : Only S a b) (o : Obj) : Only S a (b.alloc o) := h.trans (Only.ofBelow (S := []) (below1 b o)) (fun x hx => by simp at hx)
theorem Only.drewN (h : Only S a b) (n : Nat) : Only S a (b.drewN n) := ⟨h.os, h.tape, h.output, h.size, h.block⟩
theorem Only.setCell (h : Only S a b) {p : Addr} (hp : p.block ∈ S ∨ a.heap.size ≤ p.block) (u : Value) : Only S a (b.setCell p u) :=
  ⟨h.os, h.tape, h.output, by simpa [World.setCell] using h.size, fun k hk hs => (Below.heap_setCell _ _ _ _ (by
    rintro rfl
    rcases hp with h1 | h1
    · exact hs h1
    · omega)).trans (h.block k hk hs)⟩
theorem Only.row {g : Nat} {t : TypeId} {cs : List Value} (h : Only S w w') (hr : Row w g t cs) (hg : g ∉ S) : Row w' g t cs := (h.block g hr.lt hg).trans hr
theorem Only.own {B : Nat} {v : Value} {l : List Int} (h : Only S w w') (ho : OwnI B w v l) (hg : ∀ g, v.ownBlock = some g → g ∉ S) : OwnI B w' v l :=
  own_same ho fun g e => h.block g (ho.lt e).2 (hg g e)
end

/-! ### The methods -/
theorem row_len (A : Option Addr) (n c : Nat) (w : World) : Calls Tryz.prog 251 #[.slice A n c] w fun e w' => e = .returned (.int .i64 n) ∧ w' = w := by
  go_enter Tryz.func251, Tryz.ntmps251
  go_wp2
  go_ret
  exact ⟨rfl, rfl⟩
theorem row_less (Bo : Nat) (l : List Int) (g c n i j : Nat) (w : World) (hown : OwnI Bo w (.slice (some ⟨g, 0, none⟩) n c) l) (hn : n = l.length) (hi : i < l.length) (hj : j < l.length) (hl : l.length ≤ 2000000) :
    Calls Tryz.prog 252 #[.slice (some ⟨g, 0, none⟩) n c, .int .i64 i, .int .i64 j] w fun e w' => e = .returned (.bool (decide (l.getD i 0 < l.getD j 0))) ∧ ∃ q, w' = w.drewN q := by
  have ci := hown.cell i hi
  have cj := hown.cell j hj
  rw [← getD_at hi] at ci
  rw [← getD_at hj] at cj
  clear hown
  rw [← hn] at hi hj hl
  generalize l.getD i 0 = x at ci ⊢
  generalize l.getD j 0 = y at cj ⊢
  clear hn
  go_enter Tryz.func252, Tryz.ntmps252
  go_wp2
  go_quiet (fail)
  go_wp2
  go_ret
  exact ⟨rfl, nq, rfl⟩
theorem row_swap0 (g c n i j : Nat) (x y : Int) (w : World) (hi : i < n) (hj : j < n) (hn : n ≤ 2000000)
    (ci : w.cell? ⟨g, i, none⟩ = some (.int .i64 x)) (cj : w.cell? ⟨g, j, none⟩ = some (.int .i64 y)) (fi : w.frozen? ⟨g, i, none⟩ = false) (fj : w.frozen? ⟨g, j, none⟩ = false) :
    Calls Tryz.prog 253 #[.slice (some ⟨g, 0, none⟩) n c, .int .i64 i, .int .i64 j] w fun e w' => e = .returned (.tuple #[]) ∧ ∃ q, w' = ((w.setCell ⟨g, i, none⟩ (.int .i64 y)).setCell ⟨g, j, none⟩ (.int .i64 x)).drewN q := by
  obtain ⟨v', hy'⟩ := cell?_setCell_some (w := w) (p := ⟨g, i, none⟩) (x := .int .i64 y) (q := ⟨g, j, none⟩) cj
  go_enter Tryz.func253, Tryz.ntmps253
  go_wp2
  go_region
  all_goals (try go_wp2)
  all_goals go_end0
  all_goals exact ⟨rfl, 1, rfl⟩
theorem row_swap (Bo : Nat) (l : List Int) (g c n i j : Nat) (w : World) (hown : OwnI Bo w (.slice (some ⟨g, 0, none⟩) n c) l) (hn : n = l.length) (hi : i < l.length) (hj : j < l.length) (hl : l.length ≤ 2000000) :
    Calls Tryz.prog 253 #[.slice (some ⟨g, 0, none⟩) n c, .int .i64 i, .int .i64 j] w fun e w' => e = .returned (.tuple #[]) ∧ OwnI Bo w' (.slice (some ⟨g, 0, none⟩) n c) (swapL l i j) ∧ Only [g] w w' := by
  refine (row_swap0 g c n i j (l.getD i 0) (l.getD j 0) w (by omega) (by omega) (by omega) (by rw [getD_at hi]; exact hown.cell i hi) (by rw [getD_at hj]; exact hown.cell j hj) (hown.free i) (hown.free j)).mono ?_
  rintro e w' ⟨rfl, q, rfl⟩
  refine ⟨rfl, ?_, ?_⟩
  · exact ((hown.stored i (l.getD j 0)).1.stored j (l.getD i 0)).1
  · exact (((Only.refl [g] w).setCell (p := ⟨g, i, none⟩) (.inl (by simp)) _).setCell (p := ⟨g, j, none⟩) (.inl (by simp)) _).drewN q
end Go.Proofs.YtmecmlpoallpcaaGreatDoor

/- code.row's Push and Pop, on a row of ints that is the call's own and lies in a variable. -/
namespace Go.Proofs.YtmecmlpoallpcaaGreatDoor
set_option linter.unusedVariables false
open Go.RowKit Go.Proofs.PeepPlain

def blk (v : Value) : List Nat := v.ownBlock.toList
theorem blk_iff {v : Value} {g : Nat} : g ∈ blk v ↔ v.ownBlock = some g := by
  unfold blk
  simp
/-- The variable R (a block of one cell) holds v, the call's own row of the ints l. -/
structure Held (Bo : Nat) (w : World) (R : Nat) (t : TypeId) (v : Value) (l : List Int) : Prop where
  row : Row w R t [v]
  own : OwnI Bo w v l
  ne : ∀ g, v.ownBlock = some g → g ≠ R
/-- What has become of it: R and its row alone were written. -/
structure Went (R : Nat) (v : Value) (w : World) (v' : Value) (w' : World) : Prop where
  only : Only (R :: blk v) w w'
  new : ∀ g, v'.ownBlock = some g → g ∈ blk v ∨ w.heap.size ≤ g
theorem Went.trans {R : Nat} {v v1 v2 : Value} {w w1 w2 : World} (h : Went R v w v1 w1) (k : Went R v1 w1 v2 w2) : Went R v w v2 w2 where
  only := h.only.trans k.only (fun x hx => by
    rcases List.mem_cons.1 hx with rfl | hx
    · exact .inl (by simp)
    · rcases h.new x (blk_iff.1 hx) with h1 | h1
      · exact .inl (by simp [h1])
      · exact .inr h1)
  new := fun g hg => by
    rcases k.new g hg with h1 | h1
    · exact h.new g (blk_iff.1 h1)
    · exact .inr (Nat.le_trans h.only.size h1)
theorem Went.refl (R : Nat) (v : Value) (w : World) : Went R v w v w := ⟨Only.refl _ _, fun g hg => .inl (blk_iff.2 hg)⟩
theorem Held.drewN {Bo : Nat} {w : World} {R : Nat} {t : TypeId} {v : Value} {l : List Int} (h : Held Bo w R t v l) (n : Nat) : Held Bo (w.drewN n) R t v l := ⟨h.row.drewN n, h.own.drewN n, h.ne⟩

theorem news_one (w : World) (x : Value) (t : TypeId) : ∀ (j : Nat) u, [x][j]? = some u → (w.alloc (.cells #[x] t)).cell? ((⟨w.heap.size, 0, none⟩ : Addr).add j) = some u := fun j u hu => by
  have := (Row.made w t [x]).cell j
  rw [Addr.add_lit, Nat.zero_add, this]
  exact hu
/-- Behind the append: what is known. -/
theorem push_step {Bo R : Nat} {v : Value} {l : List Int} {x : Int} {w W : World} {g cap n : Nat} (h : Held Bo w R 152 v l) (hB : Bo ≤ w.heap.size)
    (hown : W.ownsRow Bo 3 1 (.slice (some ⟨g, 0, none⟩) n cap) n (intC l ++ [.int .i64 x])) (hn : n = l.length + 1) (hg : (w.alloc (.cells #[.int .i64 x] 3)).drew.grownBy W v.ownBlock) (hat : v.ownBlock = some g ∨ g = (w.alloc (.cells #[.int .i64 x] 3)).heap.size) :
    Hid (W.frozen? ⟨R, 0, none⟩ = false ∧ W.cell? ⟨R, 0, none⟩ = some v ∧ Held Bo (W.setCell ⟨R, 0, none⟩ (.slice (some ⟨g, 0, none⟩) n cap)) R 152 (.slice (some ⟨g, 0, none⟩) n cap) (l ++ [x]) ∧ Went R v w (.slice (some ⟨g, 0, none⟩) n cap) (W.setCell ⟨R, 0, none⟩ (.slice (some ⟨g, 0, none⟩) n cap))) := by
  have hR := h.row.lt
  have hrow : Row W R 152 [v] := (h.row.alloc _).drew.grown hg (fun e => h.ne R e.symm rfl)
  have hgR : g ≠ R := by
    rcases hat with e | e
    · exact h.ne g e
    · rw [e]; simp; omega
  refine ⟨hrow.free 0, hrow.cell 0, ⟨hrow.set 0 _, ?_, fun k hk => ?_⟩, ⟨?_, fun k hk => ?_⟩⟩
  · refine own_same ?_ fun k hk => Below.heap_setCell _ _ _ _ ?_
    · show World.ownsRow _ _ _ _ _ _ _
      rw [List.length_append, intC_append, List.length_singleton, ← hn]
      exact hown
    · simp only [Value.ownBlock, Option.some.injEq] at hk
      subst hk
      exact hgR
  · simp only [Value.ownBlock, Option.some.injEq] at hk
    subst hk
    exact hgR
  · have ho : Only (R :: blk v) w W := ⟨hg.os, hg.tape, hg.output, Nat.le_trans (by simp [World.drew]) hg.size, fun k hk hs =>
      (hg.block k (by show k < (w.alloc _).heap.size; simp; omega) (fun e => hs (by simp [blk_iff.2 e.symm]))).trans (row_old w _ k hk)⟩
    exact ho.setCell (p := ⟨R, 0, none⟩) (.inl (show R ∈ R :: blk v by simp)) _
  · simp only [Value.ownBlock, Option.some.injEq] at hk
    subst hk
    rcases hat with e | e
    · exact .inl (blk_iff.2 e)
    · exact .inr (by rw [e]; simp)
theorem assert_int (x : Int) (w : World) : (Instr.typeAssert (.iface 3 (.int .i64 x)) 20 3 false).run Tryz.prog w = .ok (.int .i64 x) w := by kernel_rfl
set_option maxHeartbeats 4000000 in
theorem row_push (Bo R : Nat) (v : Value) (l : List Int) (x : Int) (w : World) (h : Held Bo w R 152 v l) (hB : Bo ≤ w.heap.size) (hl : l.length ≤ 1000000) :
    Calls Tryz.prog 255 #[.pointer (some ⟨R, 0, none⟩), .iface 3 (.int .i64 x)] w fun e w' => e = .returned (.tuple #[]) ∧ ∃ v', Held Bo w' R 152 v' (l ++ [x]) ∧ Went R v w v' w' := by
  obtain ⟨i3, hi3, hz3, hs3, hy3⟩ := info_parts info3
  obtain ⟨A, c, rfl⟩ := h.own.shape
  have hc : w.cell? ⟨R, 0, none⟩ = some (.slice A l.length c) := h.row.cell 0
  have hf := h.row.free 0
  have hR := h.row.lt
  have ha := assert_int x
  have HH := Lib.hid h
  have HN := Lib.hid (news_one w (.int .i64 x) 3)
  clear h
  go_enter Tryz.func255, Tryz.ntmps255
  go_wp2_with fail
  go_region_law ((refine step_append_lies _ (by rfl) (.tmp 7) (.tmp 10) 152 (by rfl) Bo 3 i3 (.int .i64 0) 1 8 Tryz.underlying152 hi3 hz3 hs3 hy3 (by rfl) (by omega) (.slice A l.length c) l.length (intC l) (by rfl) (HH.out.own.alloc _) ⟨w.heap.size, 0, none⟩ 1 1 [.int .i64 x] (by rfl) (by rfl) HN.out (intC_one [x]) (by omega) (by simp only [maxLen]; omega) (by omega) (by simp; omega) _ rfl ?_; intro g cap W3 hown3 hgrow3 hat3 hlt3; have HST := push_step HH.out hB hown3 rfl hgrow3 hat3; have hf3 := HST.out.1; have hc3 := HST.out.2.1; clear hown3 hgrow3 hat3))
  all_goals (try go_wp2)
  all_goals go_end0
  all_goals exact ⟨rfl, _, HST.out.2.2⟩
/-- Behind the shortening. -/
theorem pop_step {Bo R g cap n : Nat} {l : List Int} {x : Int} {w : World} (h : Held Bo w R 152 (.slice (some ⟨g, 0, none⟩) n cap) (l ++ [x])) :
    Held Bo (w.setCell ⟨R, 0, none⟩ (.slice (some ⟨g, 0, none⟩) l.length cap)) R 152 (.slice (some ⟨g, 0, none⟩) l.length cap) l ∧ Went R (.slice (some ⟨g, 0, none⟩) n cap) w (.slice (some ⟨g, 0, none⟩) l.length cap) (w.setCell ⟨R, 0, none⟩ (.slice (some ⟨g, 0, none⟩) l.length cap)) := by
  have hne : g ≠ R := h.ne g rfl
  refine ⟨⟨h.row.set 0 _, ?_, fun k hk => ?_⟩, ⟨(Only.refl _ _).setCell (p := ⟨R, 0, none⟩) (.inl (show R ∈ R :: blk _ by simp)) _, fun k hk => .inl (blk_iff.2 hk)⟩⟩
  · refine own_same h.own.shrink fun k hk => Below.heap_setCell _ _ _ _ ?_
    simp only [Value.ownBlock, Option.some.injEq] at hk
    subst hk
    exact hne
  · simp only [Value.ownBlock, Option.some.injEq] at hk
    subst hk
    exact hne
set_option maxHeartbeats 4000000 in
theorem row_pop (Bo R : Nat) (v : Value) (l : List Int) (x : Int) (w : World) (h : Held Bo w R 152 v (l ++ [x])) (hl : l.length ≤ 1000000) :
    Calls Tryz.prog 254 #[.pointer (some ⟨R, 0, none⟩)] w fun e w' => e = .returned (.iface 3 (.int .i64 x)) ∧ ∃ v', Held Bo w' R 152 v' l ∧ Went R v w v' w' := by
  obtain ⟨A, c, rfl⟩ := h.own.shape
  obtain ⟨g, rfl, hgn, hgc, hgm⟩ := h.own.addr (by simp)
  have hlast := h.own.cell l.length (by simp)
  rw [List.getElem_append_right (Nat.le_refl _)] at hlast
  simp only [Nat.sub_self, List.getElem_cons_zero] at hlast
  have htl : (l ++ [x]).length = l.length + 1 := by simp
  have HP := Lib.hid (pop_step h)
  have HL := Lib.hid htl
  have hc : w.cell? ⟨R, 0, none⟩ = some (.slice (some ⟨g, 0, none⟩) (l ++ [x]).length c) := h.row.cell 0
  rw [htl] at hc hgc
  have hf := h.row.free 0
  obtain ⟨n, hn⟩ : ∃ n, n = l.length := ⟨_, rfl⟩
  rw [← hn] at hc hgc hlast
  have HN := Lib.hid hn
  have hn1 : n ≤ 1000000 := by omega
  have hj : (0 : Int) ≤ (n : Int) ∧ (n : Int) < ((n + 1 : Nat) : Int) := by omega
  have hw0 : wrap64 (((n + 1 : Nat) : Int) - 1) = (n : Int) := by
    unfold wrap64
    omega
  have hw1 : wrap64 (n : Int) = (n : Int) := by
    unfold wrap64
    omega
  clear h hn htl hgn
  go_enter Tryz.func254, Tryz.ntmps254
  go_wp2_with fail
  go_ret
  have hp := HP.out
  rw [← HN.out] at hp
  exact ⟨rfl, _, hp⟩
end Go.Proofs.YtmecmlpoallpcaaGreatDoor

/- container/heap at code.row: how its methods are found; up, down, Push, Pop; code.push, code.pop. -/
namespace Go.Proofs.YtmecmlpoallpcaaGreatDoor
set_option linter.unusedVariables false
open Go.RowKit Go.Proofs.PeepPlain

theorem meth_len0 (R : Nat) (w : World) : Sem.run Tryz.prog (method 418 154 (.pointer (some ⟨R, 0, none⟩)) "Len") w = match w.cell? ⟨R, 0, none⟩ with | some v => .ok (251, v) w | none => match World.farLoad Tryz.prog w ⟨R, 0, none⟩ (Mode.plain == Mode.atomic) with | .ok (v, _) => .ok (251, v) w | .error h => .halt h w := by kernel_rfl
theorem meth_len (R : Nat) (v : Value) (w : World) (hc : w.cell? ⟨R, 0, none⟩ = some v) : Sem.run Tryz.prog (method 418 154 (.pointer (some ⟨R, 0, none⟩)) "Len") w = .ok (251, v) w := by
  rw [meth_len0, hc]
theorem meth_less0 (R : Nat) (w : World) : Sem.run Tryz.prog (method 418 154 (.pointer (some ⟨R, 0, none⟩)) "Less") w = match w.cell? ⟨R, 0, none⟩ with | some v => .ok (252, v) w | none => match World.farLoad Tryz.prog w ⟨R, 0, none⟩ (Mode.plain == Mode.atomic) with | .ok (v, _) => .ok (252, v) w | .error h => .halt h w := by kernel_rfl
theorem meth_less (R : Nat) (v : Value) (w : World) (hc : w.cell? ⟨R, 0, none⟩ = some v) : Sem.run Tryz.prog (method 418 154 (.pointer (some ⟨R, 0, none⟩)) "Less") w = .ok (252, v) w := by
  rw [meth_less0, hc]
theorem meth_swap0 (R : Nat) (w : World) : Sem.run Tryz.prog (method 418 154 (.pointer (some ⟨R, 0, none⟩)) "Swap") w = match w.cell? ⟨R, 0, none⟩ with | some v => .ok (253, v) w | none => match World.farLoad Tryz.prog w ⟨R, 0, none⟩ (Mode.plain == Mode.atomic) with | .ok (v, _) => .ok (253, v) w | .error h => .halt h w := by kernel_rfl
theorem meth_swap (R : Nat) (v : Value) (w : World) (hc : w.cell? ⟨R, 0, none⟩ = some v) : Sem.run Tryz.prog (method 418 154 (.pointer (some ⟨R, 0, none⟩)) "Swap") w = .ok (253, v) w := by
  rw [meth_swap0, hc]
theorem meth_push (R : Nat) (w : World) : Sem.run Tryz.prog (method 418 154 (.pointer (some ⟨R, 0, none⟩)) "Push") w = .ok (255, .pointer (some ⟨R, 0, none⟩)) w := by kernel_rfl
theorem meth_pop (R : Nat) (w : World) : Sem.run Tryz.prog (method 418 154 (.pointer (some ⟨R, 0, none⟩)) "Pop") w = .ok (254, .pointer (some ⟨R, 0, none⟩)) w := by kernel_rfl

/-- A swap, behind some draws. -/
theorem Went.swap {R g n c : Nat} {w w2 w4 : World} (h : Went R (.slice (some ⟨g, 0, none⟩) n c) w (.slice (some ⟨g, 0, none⟩) n c) w2) {q : Nat} (hy : Only [g] (w2.drewN q) w4) (q' : Nat) : Went R (.slice (some ⟨g, 0, none⟩) n c) w (.slice (some ⟨g, 0, none⟩) n c) w4 :=
  ⟨(h.only.drewN q).trans hy (fun x hx => .inl (by simp at hx; subst hx; simp [blk, Value.ownBlock])), h.new⟩
set_option maxHeartbeats 4000000 in
theorem up_walk (Bo R : Nat) (v : Value) (l : List Int) (j : Nat) (w : World) (h : Held Bo w R 152 v l) (hj : j < l.length) (hl : l.length ≤ 1000000) :
    Calls Tryz.prog 178 #[.iface 154 (.pointer (some ⟨R, 0, none⟩)), .int .i64 j] w fun e w' => e = .returned (.tuple #[]) ∧ Held Bo w' R 152 v (upL l j) ∧ Went R v w v w' := by
  have HH := Lib.hid h
  obtain ⟨A, c, rfl⟩ := h.own.shape
  obtain ⟨g, rfl, hgn, hgc, hgm⟩ := h.own.addr (by omega)
  obtain ⟨N, hN⟩ : ∃ N, N = l.length := ⟨_, rfl⟩
  rw [← hN] at hj hl hgc HH ⊢
  have HL : Hid (l.length = N) := Lib.hid hN.symm
  clear h hgn hN
  go_enter Tryz.func178, Tryz.ntmps178
  go_wp2_with fail
  go_loopw [1, 4] (fun jv iv wr => ∃ (j' : Nat) (l' : List Int), jv = .int .i64 j' ∧ j' < N ∧ Hid (l'.length = N) ∧ Hid (Held Bo wr R 152 (.slice (some ⟨g, 0, none⟩) N c) l') ∧ Hid (upL l' j' = upL l j) ∧ Hid (Went R (.slice (some ⟨g, 0, none⟩) N c) w (.slice (some ⟨g, 0, none⟩) N c) wr)) (fun jv _ _ => (intOf jv).toNat)
  case atStart => exact ⟨j, l, rfl, hj, HL, HH, rfl, Went.refl _ _ _⟩
  case round =>
    clear HH hj HL
    rename World => w2
    obtain ⟨k, m, rfl, hk, HL, HM, HU, HW⟩ := hrel
    have hc : w2.cell? ⟨R, 0, none⟩ = some (.slice (some ⟨g, 0, none⟩) N c) := HM.out.row.cell 0
    have hme := meth_less R _ w2 hc
    by_cases h0 : k = 0
    · subst h0
      have HE := HU.out
      rw [upL, dif_pos rfl] at HE
      replace HE := Lib.hid HE
      clear HU
      go_wp2_with fail
      go_end0
      exact ⟨rfl, by rw [← HE.out]; exact HM.out, HW.out⟩
    · obtain ⟨i, hi⟩ : ∃ i, i = (k - 1) / 2 := ⟨_, rfl⟩
      have hik : i < k := by omega
      have hi2 : ((k : Int) - 1) / 2 = (i : Int) := by omega
      have hine : ((i : Int) == (k : Int)) = false := beq_eq_false_iff_ne.2 (by omega)
      have hine2 : ¬ (i : Int) = (k : Int) := by omega
      have hk1 : 1 ≤ k := by omega
      have HI := Lib.hid hi
      have HK := Lib.hid h0
      have hles := row_less Bo m g c N k i w2 HM.out.own HL.out.symm (by rw [HL.out]; omega) (by rw [HL.out]; omega) (by rw [HL.out]; omega)
      clear hi h0
      by_cases hlt : m.getD k 0 < m.getD i 0
      · rw [decide_eq_true hlt] at hles
        have HE := HU.out
        rw [upL, dif_neg HK.out, ← HI.out, if_pos hlt] at HE
        replace HE := Lib.hid HE
        clear HU hlt
        go_wp2_with (first
          | (go_at_call 252; refine hles.mono ?_; rintro en w3 ⟨rfl, q, rfl⟩
             have hme2 := meth_swap R (.slice (some ⟨g, 0, none⟩) N c) (w2.drewN q) hc)
          | (go_at_call 253; refine (row_swap Bo m g c N i k _ (HM.out.drewN q).own HL.out.symm (by rw [HL.out]; omega) (by rw [HL.out]; omega) (by rw [HL.out]; omega)).mono ?_; rintro en w4 ⟨rfl, ho4, hy4⟩))
        go_roundw
        case rel => exact ⟨i, swapL m i k, rfl, by omega, by rw [swap_length]; exact HL, ⟨hy4.row (HM.out.drewN q).row (by simpa using fun e => HM.out.ne g rfl e.symm), ho4, HM.out.ne⟩, HE, HW.out.swap hy4 q⟩
        case measure => simp [intOf]; omega
      · rw [decide_eq_false hlt] at hles
        have HE := HU.out
        rw [upL, dif_neg HK.out, ← HI.out, if_neg hlt] at HE
        replace HE := Lib.hid HE
        clear HU hlt
        go_wp2_with (first
          | (go_at_call 252; refine hles.mono ?_; rintro en w3 ⟨rfl, q, rfl⟩))
        go_end0
        exact ⟨rfl, by rw [← HE.out]; exact HM.out.drewN q, HW.out.only.drewN q, HW.out.new⟩
end Go.Proofs.YtmecmlpoallpcaaGreatDoor
