/- Texts of this proof, put together: SameA, SameB, SmallW, OnceP, OnceW. -/
import Derived.Test.YtmecmlpoallpcaaGreatDoorM37
import Derived.Test.YtmecmlpoallpcaaGreatDoorM15
import Derived.Deep.QuietTactic
import Derived.BigQuiet
set_option linter.all false
/- slices.Equal of equal lists. -/
namespace Go.Proofs.YtmecmlpoallpcaaGreatDoor
set_option linter.unusedVariables false
open Go.RowKit Go.Proofs.PeepPlain

def Yes (w : World) (e : Ending) (w' : World) : Prop := e = .returned (.bool true) ∧ ∃ q, w' = w.drewN q
theorem eq_ints (A1 A2 : Option Addr) (c1 c2 : Nat) (l : List Int) (w : World) (h1 : Lies w A1 (l.map (Value.int .i64))) (h2 : Lies w A2 (l.map (Value.int .i64))) (hl : l.length ≤ 2000000) :
    Calls Tryz.prog 34 #[.slice A1 l.length c1, .slice A2 l.length c2] w (Yes w) := by
  by_cases h0 : 0 < l.length
  · obtain ⟨b, off, rfl, hlt, hc⟩ := h1 (by simpa using h0)
    obtain ⟨b', off', rfl, hlt', hc'⟩ := h2 (by simpa using h0)
    have key : ∀ j, j < l.length → (l.map (Value.int .i64))[j]? = some (.int .i64 (l.getD j 0)) := fun j hj => by rw [List.getElem?_map, List.getElem?_eq_getElem hj, List.getD_eq_getElem?_getD, List.getElem?_eq_getElem hj]; rfl
    refine (Tryz.slices_Equal_int b off l.length c1 b' off' l.length c2 l l w (Nat.le_refl _) (Nat.le_refl _) (by omega) (by omega) (fun j hj => hc j _ (key j hj)) (fun j hj => hc' j _ (key j hj))).mono ?_
    rintro e w' ⟨rfl, q, rfl⟩
    exact ⟨by rw [beq_self_eq_true], q, rfl⟩
  · have hn : l = [] := List.eq_nil_of_length_eq_zero (by omega)
    subst hn
    refine (Tryz.slices_Equal_int_empty A1 A2 c1 0 c2 w (by omega)).mono ?_
    rintro e w' ⟨rfl, rfl⟩
    exact ⟨rfl, 0, rfl⟩
theorem eq_texts (A1 A2 : Option Addr) (c1 c2 : Nat) (l : List ByteArray) (w : World) (h1 : Lies w A1 (l.map Value.string)) (h2 : Lies w A2 (l.map Value.string)) (hl : l.length ≤ 2000000) :
    Calls Tryz.prog 31 #[.slice A1 l.length c1, .slice A2 l.length c2] w (Yes w) := by
  by_cases h0 : 0 < l.length
  · obtain ⟨b, off, rfl, hlt, hc⟩ := h1 (by simpa using h0)
    obtain ⟨b', off', rfl, hlt', hc'⟩ := h2 (by simpa using h0)
    have key : ∀ j, j < l.length → (l.map Value.string)[j]? = some (.string (l.getD j ByteArray.empty)) := fun j hj => by rw [List.getElem?_map, List.getElem?_eq_getElem hj, List.getD_eq_getElem?_getD, List.getElem?_eq_getElem hj]; rfl
    refine (Tryz.slices_Equal_string b off l.length c1 b' off' l.length c2 l l w (Nat.le_refl _) (Nat.le_refl _) (by omega) (by omega) (fun j hj => hc j _ (key j hj)) (fun j hj => hc' j _ (key j hj))).mono ?_
    rintro e w' ⟨rfl, q, rfl⟩
    exact ⟨by rw [decide_eq_true rfl], q, rfl⟩
  · have hn : l = [] := List.eq_nil_of_length_eq_zero (by omega)
    subst hn
    refine (Tryz.slices_Equal_string_empty A1 A2 c1 0 c2 w (by omega)).mono ?_
    rintro e w' ⟨rfl, rfl⟩
    exact ⟨rfl, 0, rfl⟩
theorem eq_ins (A1 A2 : Option Addr) (c1 c2 : Nat) (l : List Ins) (w : World) (h1 : InsAt w A1 l) (h2 : InsAt w A2 l) (hl : l.length ≤ 2000000) :
    Calls Tryz.prog 35 #[.slice A1 l.length c1, .slice A2 l.length c2] w (Yes w) := by
  have H1 := Lib.hid h1
  have H2 := Lib.hid h2
  clear h1 h2
  go_enter Tryz.func35, Tryz.ntmps35
  go_wp2_with fail
  go_loopw [5, 13] (fun z5 v wr => ∃ (k q : Nat), wr = w.drewN q ∧ v = .int .i64 k ∧ k ≤ l.length) (fun _ v _ => l.length - (intOf v).toNat)
  case atStart => exact ⟨0, 0, rfl, rfl, Nat.zero_le _⟩
  case round =>
    obtain ⟨k, q, rfl, rfl, hk⟩ := hrel
    by_cases hlt : k < l.length
    · obtain ⟨b, off, rfl, hb, hc⟩ := H1.out.at_ (by omega)
      obtain ⟨b', off', rfl, hb', hc'⟩ := H2.out.at_ (by omega)
      obtain ⟨e0, e1, e2, e3, e4⟩ := hc k hlt
      obtain ⟨d0, d1, d2, d3, d4⟩ := hc' k hlt
      clear hc hc'
      have hi : (0 : Int) ≤ (k : Int) ∧ (k : Int) < (l.length : Int) := by omega
      generalize l[k] = x at e0 e1 e2 e3 e4 d0 d1 d2 d3 d4
      go_wp2_with fail
      go_quiet (fail)
      go_wp2_with fail
      go_roundw
      case rel => exact ⟨k + 1, q + nq, rfl, by go_num, by omega⟩
      case measure => simp [intOf]; omega
    · obtain rfl : k = l.length := by omega
      go_wp2_with fail
      go_ret
      exact ⟨rfl, q, rfl⟩
end Go.Proofs.YtmecmlpoallpcaaGreatDoor

/- code.Same of programs of equal content. -/
namespace Go.Proofs.YtmecmlpoallpcaaGreatDoor
set_option linter.unusedVariables false
open Go.RowKit Go.Proofs.PeepPlain

def YesB (w : World) (e : Ending) (w' : World) : Prop := e = .returned (.bool true) ∧ Below w.heap.size w w'
set_option maxRecDepth 20000 in
set_option maxHeartbeats 4000000 in
theorem same_fn (n : ByteArray) (p s r : Int) (tk : List Int) (cd : List Ins) (T1 T2 C1 C2 : Option Addr) (t1 t2 c1 c2 : Nat) (w : World) (h1 : Lies w T1 (tk.map (Value.int .i64))) (h2 : Lies w T2 (tk.map (Value.int .i64))) (h3 : InsAt w C1 cd) (h4 : InsAt w C2 cd) (l1 : tk.length ≤ 2000000) (l2 : cd.length ≤ 2000000) :
    Calls Tryz.prog 33 #[.agg #[.string n, .int .i64 p, .int .i64 s, .slice T1 tk.length t1, .int .i64 r, .slice C1 cd.length c1], .agg #[.string n, .int .i64 p, .int .i64 s, .slice T2 tk.length t2, .int .i64 r, .slice C2 cd.length c2]] w (YesB w) := by
  have HT := Lib.hid (fun (wx : World) (hb : Below w.heap.size w wx) => eq_ints T1 T2 t1 t2 tk wx (h1.below hb rfl) (h2.below hb rfl) l1)
  have HC := Lib.hid (fun (wx : World) (hb : Below w.heap.size w wx) => eq_ins C1 C2 c1 c2 cd wx (h3.below hb) (h4.below hb) l2)
  clear h1 h2 h3 h4
  go_enter Tryz.func33, Tryz.ntmps33
  go_wp2_with (first
    | (go_at_call 34; refine (HT.out _ (below2 w _ _)).mono ?_; rintro en w2 ⟨rfl, q, rfl⟩)
    | (go_at_call 35; refine (HC.out _ (below_drewN (below2 w _ _) q)).mono ?_; rintro en w3 ⟨rfl, q2, rfl⟩))
  go_ret
  exact ⟨rfl, below_drewN (below2 w _ _) (q + q2)⟩
/-- Alike but for where the parts lie. -/
def Alike (fs gs : List Fn) : Prop := gs.length = fs.length ∧ ∀ i, (h : i < fs.length) → (h' : i < gs.length) → gs[i].name = fs[i].name ∧ gs[i].params = fs[i].params ∧ gs[i].slots = fs[i].slots ∧ gs[i].taken = fs[i].taken ∧ gs[i].around = fs[i].around ∧ gs[i].code = fs[i].code
set_option maxRecDepth 20000 in
set_option maxHeartbeats 4000000 in
theorem equal_fns (fs gs : List Fn) (A B : Option Addr) (c d : Nat) (w : World) (hF : FnsAt w A fs) (hG : FnsAt w B gs) (hA : Alike fs gs) (hl : fs.length ≤ 2000000) (hb : ∀ f ∈ fs, f.taken.length ≤ 2000000 ∧ f.code.length ≤ 2000000) :
    Calls Tryz.prog 32 #[.slice A fs.length c, .slice B fs.length d, .func (Fn.func 33) #[] #[]] w (YesB w) := by
  have HF := Lib.hid hF
  have HG := Lib.hid hG
  have HA := Lib.hid hA
  have HB := Lib.hid hb
  clear hF hG hA hb
  go_enter Tryz.func32, Tryz.ntmps32
  go_wp2_with fail
  go_loopw [7, 8, 9, 17] (fun z7 z8 z9 v wr => ∃ (k : Nat), v = .int .i64 k ∧ k ≤ fs.length ∧ Hid (Below w.heap.size w wr)) (fun _ _ _ v _ => fs.length - (intOf v).toNat)
  case atStart => exact ⟨0, rfl, Nat.zero_le _, Lib.hid (Below.refl _ _)⟩
  case round =>
    obtain ⟨k, rfl, hk, B0⟩ := hrel
    by_cases hlt : k < fs.length
    · have hlt' : k < gs.length := by have := HA.out.1; omega
      have F1 := Lib.hid (HF.out.below B0.out)
      have G1 := Lib.hid (HG.out.below B0.out)
      obtain ⟨b, off, rfl, hbl, hc⟩ := F1.out.at_ (by omega)
      obtain ⟨b', off', rfl, hbl', hc'⟩ := G1.out.at_ (by omega)
      obtain ⟨e0, e1, e2, e3, e4, e5⟩ := hc k hlt
      obtain ⟨d0, d1, d2, d3, d4, d5⟩ := hc' k hlt'
      obtain ⟨a0, a1, a2, a3, a4, a5⟩ := HA.out.2 k hlt hlt'
      have H1 := Lib.hid (F1.out.taken _ (List.getElem_mem hlt))
      have H2 := Lib.hid (G1.out.taken _ (List.getElem_mem hlt'))
      have H3 := Lib.hid (F1.out.code _ (List.getElem_mem hlt))
      have H4 := Lib.hid (G1.out.code _ (List.getElem_mem hlt'))
      have HL := Lib.hid (HB.out _ (List.getElem_mem hlt))
      rw [a0] at d0
      rw [a1] at d1
      rw [a2] at d2
      rw [a3] at d3 H2
      rw [a4] at d4
      rw [a5] at d5 H4
      clear hc hc' a0 a1 a2 a3 a4 a5
      have hi : (0 : Int) ≤ (k : Int) ∧ (k : Int) < (fs.length : Int) := by omega
      have HK := Lib.hid (fun (wx : World) (hb : Below wr.heap.size wr wx) => same_fn fs[k].name fs[k].params fs[k].slots fs[k].around fs[k].taken fs[k].code fs[k].TA gs[k].TA fs[k].CA gs[k].CA fs[k].tc gs[k].tc fs[k].cc gs[k].cc wx (H1.out.below hb rfl) (H2.out.below hb rfl) (H3.out.below hb) (H4.out.below hb) HL.out.1 HL.out.2)
      clear H1 H2 H3 H4 HL
      generalize fs[k] = o at e0 e1 e2 e3 e4 e5 d0 d1 d2 d3 d4 d5 HK
      generalize gs[k] = o' at d3 d5 HK
      go_wp2_with (first
        | (go_at_call 33; refine (HK.out _ (below2 wr _ _)).mono ?_; rintro en w3 ⟨rfl, hb⟩
           have B3 := Lib.hid (below_more B0.out (below_more (below2 wr _ _) hb (below2 wr _ _).size) B0.out.size)
           clear hb))
      go_roundw
      case rel => exact ⟨k + 1, by go_num, by omega, B3⟩
      case measure => simp [intOf]; omega
    · obtain rfl : k = fs.length := by omega
      go_wp2_with fail
      go_ret
      exact ⟨rfl, B0.out⟩
set_option maxHeartbeats 4000000 in
theorem same_walk (fs gs : List Fn) (ns : List ByteArray) (A B NA NB : Option Addr) (c d nc nd : Nat) (w : World) (hF : FnsAt w A fs) (hG : FnsAt w B gs) (h1 : Lies w NA (ns.map Value.string)) (h2 : Lies w NB (ns.map Value.string)) (hA : Alike fs gs) (hl : fs.length ≤ 2000000) (hn : ns.length ≤ 2000000) (hb : ∀ f ∈ fs, f.taken.length ≤ 2000000 ∧ f.code.length ≤ 2000000) :
    Calls Tryz.prog 17 #[.agg #[.slice A fs.length c, .slice NA ns.length nc], .agg #[.slice B fs.length d, .slice NB ns.length nd]] w (YesB w) := by
  have HN := Lib.hid (fun (wx : World) (hb : Below w.heap.size w wx) => eq_texts NA NB nc nd ns wx (h1.below hb rfl) (h2.below hb rfl) hn)
  have HF := Lib.hid (fun (wx : World) (hx : Below w.heap.size w wx) => equal_fns fs gs A B c d wx (hF.below hx) (hG.below hx) hA hl hb)
  clear hF hG h1 h2 hA hb
  go_enter Tryz.func17, Tryz.ntmps17
  go_wp2_with (first
    | (go_at_call 31; refine (HN.out _ (below2 w _ _)).mono ?_; rintro en w2 ⟨rfl, q, rfl⟩)
    | (go_at_call 32; refine (HF.out _ (below_drewN (below2 w _ _) q)).mono ?_; rintro en w3 ⟨rfl, hb⟩
       have B3 := Lib.hid (below_more (below_drewN (below2 w _ _) q) hb (below_drewN (below2 w _ _) q).size)
       clear hb))
  go_ret
  exact ⟨rfl, B3.out⟩
end Go.Proofs.YtmecmlpoallpcaaGreatDoor

/- guiselaw15.small (6): it answers. -/
namespace Go.Proofs.YtmecmlpoallpcaaGreatDoor
set_option linter.unusedVariables false
open Go.RowKit Go.Proofs.PeepPlain

theorem gt4000 {n : Nat} (h : 4000 < n) : (4000 : Int) < (n : Int) := by omega
theorem ngt4000 {n : Nat} (h : ¬ 4000 < n) : ¬ (4000 : Int) < (n : Int) := by omega
def SmPost (w : World) (e : Ending) (w' : World) : Prop := (∃ b, e = .returned (.bool b)) ∧ Below w.heap.size w w'
theorem sm_post {w w' : World} {e : Ending} {b : Bool} (h : e = .returned (.bool b)) (hb : Below w.heap.size w w') : SmPost w e w' := ⟨⟨b, h⟩, hb⟩
set_option maxRecDepth 20000 in
set_option maxHeartbeats 4000000 in
theorem small_walk (fs : List Fn) (gl : Nat) (A GA : Option Addr) (fc gc : Nat) (w : World) (hF : FnsAt w A fs) (hnf : fs.length ≤ 2000000) (hng : gl ≤ 2000000) (hlen : ∀ f ∈ fs, f.code.length ≤ 2000000 ∧ f.taken.length ≤ 2000000) :
    Calls Tryz.prog 6 #[.agg #[.slice A fs.length fc, .slice GA gl gc]] w (SmPost w) := by
  have HF0 := Lib.hid hF
  have HLEN := Lib.hid hlen
  clear hF hlen
  by_cases h1 : (4000 : Int) < (fs.length : Int)
  · go_enter Tryz.func6, Tryz.ntmps6
    go_wp2_with fail
    go_ret
    exact sm_post rfl (below1 w _)
  by_cases h2 : (4000 : Int) < (gl : Int)
  · go_enter Tryz.func6, Tryz.ntmps6
    go_wp2_with fail
    go_ret
    exact sm_post rfl (below1 w _)
  go_enter Tryz.func6, Tryz.ntmps6
  go_wp2_with fail
  have R0 := Lib.hid (Row.made w 25 [.slice A fs.length fc, .slice GA gl gc])
  have F0 := Lib.hid (HF0.out.below (below1 w (.cells #[.slice A fs.length fc, .slice GA gl gc] 25)))
  have B0 := Lib.hid (below1 w (.cells #[.slice A fs.length fc, .slice GA gl gc] 25))
  generalize w.alloc (.cells #[.slice A fs.length fc, .slice GA gl gc] 25) = w1 at R0 F0 B0
  go_loopw [2, 3, 4] (fun z2 z3 v wr => ∃ (k : Nat) (s : Int), v = .int .i64 k ∧ z2 = .bool false ∧ z3 = .int .i64 s ∧ k ≤ fs.length ∧ Hid (Row wr w.heap.size 25 [.slice A fs.length fc, .slice GA gl gc]) ∧ Hid (FnsAt wr A fs) ∧ Hid (Below w.heap.size w wr)) (fun _ _ v _ => fs.length - (intOf v).toNat)
  case atStart => exact ⟨0, 0, rfl, rfl, rfl, Nat.zero_le _, R0, F0, B0⟩
  case round =>
    clear R0 F0 B0 HF0
    obtain ⟨k, s, rfl, rfl, rfl, hk, R0, F0, B0⟩ := hrel
    have p0 := R0.out.cell 0
    have p1 := R0.out.cell 1
    have hp := R0.out.lt
    by_cases hlt : k < fs.length
    · obtain ⟨b, off, rfl, hbl, hc⟩ := F0.out.at_ (by omega)
      obtain ⟨c0, c1, c2, c3, c4, c5⟩ := hc k hlt
      clear c0 c1 c2 c4 hc
      have hi : (0 : Int) ≤ (k : Int) ∧ (k : Int) < (fs.length : Int) := by omega
      obtain ⟨l1, l2⟩ := HLEN.out _ (List.getElem_mem hlt)
      generalize fs[k] = o at c3 c5 l1 l2
      by_cases h3 : (4000 : Int) < (o.code.length : Int)
      · go_wp2_with fail
        go_ret
        exact sm_post rfl B0.out
      by_cases h4 : (4000 : Int) < (o.taken.length : Int)
      · go_wp2_with fail
        go_ret
        exact sm_post rfl B0.out
      go_wp2_with fail
      go_quiet (fail)
      generalize wrap64 (wrap64 (s + (o.code.length : Int)) + (o.taken.length : Int)) = z
      by_cases h5 : (4000 : Int) < z
      · go_wp2_with fail
        go_ret
        exact sm_post rfl (below_drewN B0.out nq)
      go_wp2_with fail
      go_roundw
      case rel => exact ⟨k + 1, z, by go_num, rfl, rfl, by omega, R0.out.drewN nq, F0.out.below (below_drewN (Below.refl _ _) nq), below_drewN B0.out nq⟩
      case measure => simp [intOf]; omega
    · obtain rfl : k = fs.length := by omega
      go_wp2_with fail
      go_ret
      exact sm_post rfl B0.out
end Go.Proofs.YtmecmlpoallpcaaGreatDoor

/- guiselaw15.PeepOnce: what it needs of the plain laws. -/
namespace Go.Proofs.YtmecmlpoallpcaaGreatDoor
set_option linter.unusedVariables false
open Go.RowKit Go.Proofs.PeepPlain

theorem small_made {fs fs' : List Fn} {gs : List ByteArray} (R : RightP fs gs) (hS : Small fs gs) (hM : Made fs fs') : Small fs' gs where
  nf := by rw [hM.1]; exact hS.nf
  all := by
    have := made_sum hM (fun i hi hi' => made_len R hM hi hi') fs.length (Nat.le_refl _)
    rw [hM.1]
    exact Nat.le_trans this hS.all
  ng := hS.ng
  names := hS.names
  each := fun f hf => by
    obtain ⟨i, hi, rfl⟩ := List.getElem_of_mem hf
    have hi0 : i < fs.length := by rw [← hM.1]; exact hi
    obtain ⟨a, b, c, d, e, _⟩ := hM.2 i hi0 hi
    rw [a, d]
    exact hS.each _ (List.getElem_mem hi0)
  text := fun f hf x hx => by
    obtain ⟨i, hi, rfl⟩ := List.getElem_of_mem hf
    have hi0 : i < fs.length := by rw [← hM.1]; exact hi
    rw [(hM.2 i hi0 hi).2.2.2.2.2] at hx
    obtain ⟨k, hk, rfl⟩ := List.getElem_of_mem hx
    have := shorter_each o0_fair o0_closed _ fs[i].code (Nat.le_refl _) (right_pi R hS hi0) k hk
    rw [getD_at0 hk] at this
    exact this.2
theorem alike_twice {fs fs' fs2 : List Fn} {gs : List ByteArray} (R : RightP fs gs) (h1 : Made fs fs') (h2 : Made fs' fs2) : Alike fs' fs2 := ⟨h2.1, fun i h h' => made_twice R h1 h2 i h h'⟩
theorem sum_twice {fs fs' fs2 : List Fn} {gs : List ByteArray} (R : RightP fs gs) (h1 : Made fs fs') (h2 : Made fs' fs2) : ∀ k, k ≤ fs'.length → sumTo fs2 k = sumTo fs' k := by
  intro k
  induction k with
  | zero => intro _; rfl
  | succ k ih =>
    intro hk
    have hk2 : k < fs2.length := by rw [h2.1]; omega
    rw [sumTo_succ fs2 k hk2, sumTo_succ fs' k (by omega), ih (by omega), (made_twice R h1 h2 k (by omega) hk2).2.2.2.2.2]
theorem more_sum {fs fs' : List Fn} {gs : List ByteArray} (R : RightP fs gs) (hM : Made fs fs') {k : Nat} (hk : k < fs.length) (hk' : k < fs'.length) : decide (sumTo fs' (k + 1) < sumTo fs (k + 1)) = (decide (sumTo fs' k < sumTo fs k) || decide ((fs'[k].code.length : Int) < (fs[k].code.length : Int))) := by
  have e1 := sumTo_succ fs k hk
  have e2 := sumTo_succ fs' k hk'
  have e3 := made_len R hM hk hk'
  have e4 := made_sum hM (fun i hi hi' => made_len R hM hi hi') k (by omega)
  rw [Bool.eq_iff_iff, Bool.or_eq_true, decide_eq_true_iff, decide_eq_true_iff, decide_eq_true_iff]
  omega
theorem right_bound {fs : List Fn} {gs : List ByteArray} (R : RightP fs gs) : ∀ f ∈ fs, f.taken.length ≤ 2000000 ∧ f.code.length ≤ 2000000 := fun f hf => by
  obtain ⟨i, hi, rfl⟩ := List.getElem_of_mem hf
  have m := many_are R.many
  have := (m.2.2.2.2 i hi).2
  have := code_le hi
  have := m.2.2.2.1
  omega
theorem small_bound {fs : List Fn} {gs : List ByteArray} (hS : Small fs gs) : ∀ f ∈ fs, f.code.length ≤ 2000000 ∧ f.taken.length ≤ 2000000 := fun f hf => by
  obtain ⟨i, hi, rfl⟩ := List.getElem_of_mem hf
  have := code_le hi
  have := hS.all
  exact ⟨by omega, (hS.each _ (List.getElem_mem hi)).2⟩
theorem sum_same {fs fs' fs2 : List Fn} (h1 : Made fs fs') (h2 : Made fs fs2) : ∀ k, k ≤ fs.length → sumTo fs2 k = sumTo fs' k := by
  intro k
  induction k with
  | zero => intro _; rfl
  | succ k ih =>
    intro hk
    have hk1 : k < fs'.length := by rw [h1.1]; omega
    have hk2 : k < fs2.length := by rw [h2.1]; omega
    rw [sumTo_succ fs2 k hk2, sumTo_succ fs' k hk1, ih (by omega), (h1.2 k (by omega) hk1).2.2.2.2.2, (h2.2 k (by omega) hk2).2.2.2.2.2]
end Go.Proofs.YtmecmlpoallpcaaGreatDoor

/- guiselaw15.PeepOnce (4): true. -/
namespace Go.Proofs.YtmecmlpoallpcaaGreatDoor
set_option linter.unusedVariables false
open Go.RowKit Go.Proofs.PeepPlain

set_option maxRecDepth 20000 in
set_option maxHeartbeats 8000000 in
theorem once_bad (fs : List Fn) (gs : List ByteArray) (A GA : Option Addr) (fc gc : Nat) (w : World) (hF : FnsAt w A fs) (hG : Lies w GA (gs.map Value.string)) (G : ∀ wx, Below w.heap.size w wx → GlobP wx ∧ OwnG wx) (hS : Small fs gs) (hR : ¬ RightP fs gs) :
    Calls Tryz.prog 4 #[.agg #[.slice A fs.length fc, .slice GA gs.length gc]] w fun e w' => e = .returned (.bool true) ∧ Below w.heap.size w w' := by
  have HK := Lib.hid (fun (wx : World) (hb : Below w.heap.size w wx) => known_walk wx (fun wy hy => G wy (below_more hb hy hb.size)))
  have HSM := Lib.hid (fun (wx : World) (hb : Below w.heap.size w wx) => small_walk fs gs.length A GA fc gc wx (hF.below hb) hS.nf hS.ng (small_bound hS))
  have HP := Lib.hid (fun (wx : World) (hb : Below w.heap.size w wx) => program_bad fs gs A GA fc gc wx (hF.below hb) (hG.below hb rfl) (G wx hb).1 hS hR)
  have HS := Lib.hid (fun (wx : World) (hb : Below w.heap.size w wx) => saved_bad fs gs A GA fc gc wx (hF.below hb) (hG.below hb rfl) (G wx hb).1 hS hR)
  clear hF hG G hS hR
  go_enter Tryz.func4, Tryz.ntmps4
  go_wp2_with (go_at_call 5; refine (HK.out _ (below1 w _)).mono ?_)
  rintro en w1 ⟨rfl, hb⟩
  have R1 := Lib.hid ((Row.made w 25 [.slice A fs.length fc, .slice GA gs.length gc]).below hb (Row.made w 25 _).lt)
  have B1 := Lib.hid (below_more (below1 w _) hb (below1 w _).size)
  have a0 := R1.out.cell 0
  have a1 := R1.out.cell 1
  have hz := R1.out.lt
  clear hb
  go_wp2_with (go_at_call 6; refine (HSM.out _ B1.out).mono ?_)
  rintro en w2 ⟨⟨b, rfl⟩, hb⟩
  have R2 := Lib.hid (R1.out.below hb R1.out.lt)
  have B2 := Lib.hid (below_more B1.out hb B1.out.size)
  clear R1 a0 a1 hz B1 hb
  have a0 := R2.out.cell 0
  have a1 := R2.out.cell 1
  have hz := R2.out.lt
  cases b
  · go_wp2_with fail
    go_ret
    exact ⟨rfl, B2.out⟩
  go_wp2_with (go_at_call 9; refine (HP.out _ B2.out).mono ?_)
  rintro en w3 ⟨⟨g, rfl⟩, hb⟩
  have R3 := Lib.hid (R2.out.below hb R2.out.lt)
  have B3 := Lib.hid (below_more B2.out hb B2.out.size)
  clear R2 a0 a1 hz B2 hb
  have a0 := R3.out.cell 0
  have a1 := R3.out.cell 1
  have hz := R3.out.lt
  go_wp2_with (go_at_call 10; refine (HS.out _ (B3.out.alloc B3.out.size _)).mono ?_)
  rintro en w4 ⟨⟨g2, rfl⟩, hb⟩
  have B4 := Lib.hid (below_more (B3.out.alloc B3.out.size (.cells #[.slice none 0 0, .slice none 0 0] 25)) hb (Nat.le_trans B3.out.size (by simp)))
  clear hb
  go_wp2_with fail
  go_ret
  exact ⟨rfl, B4.out⟩
set_option maxRecDepth 20000 in
set_option maxHeartbeats 8000000 in
theorem once_good (fs : List Fn) (gs : List ByteArray) (A GA : Option Addr) (fc gc : Nat) (w : World) (hF : FnsAt w A fs) (hG : Lies w GA (gs.map Value.string)) (G : ∀ wx, Below w.heap.size w wx → GlobP wx ∧ OwnG wx) (hS : Small fs gs) (hR : RightP fs gs) :
    Calls Tryz.prog 4 #[.agg #[.slice A fs.length fc, .slice GA gs.length gc]] w fun e w' => e = .returned (.bool true) ∧ Below w.heap.size w w' := by
  have HK := Lib.hid (fun (wx : World) (hb : Below w.heap.size w wx) => known_walk wx (fun wy hy => G wy (below_more hb hy hb.size)))
  have HSM := Lib.hid (fun (wx : World) (hb : Below w.heap.size w wx) => small_walk fs gs.length A GA fc gc wx (hF.below hb) hS.nf hS.ng (small_bound hS))
  have HP := Lib.hid (fun (wx : World) (hb : Below w.heap.size w wx) => program_good fs gs A GA fc gc wx (hF.below hb) (hG.below hb rfl) (fun wy hy => G wy (below_more hb hy hb.size)) hS hR)
  have HS := Lib.hid (fun (wx : World) (hb : Below w.heap.size w wx) => saved_good fs gs A GA fc gc wx (hF.below hb) (hG.below hb rfl) (fun wy hy => G wy (below_more hb hy hb.size)) hS hR)
  have HQ := Lib.hid (fun (fs' : List Fn) (A' GA' : Option Addr) (c' gc' : Nat) (wx : World) (hM : Made fs fs') (hf : FnsAt wx A' fs') (hg : Lies wx GA' (gs.map Value.string)) (hb : Below w.heap.size w wx) => program_good fs' gs A' GA' c' gc' wx hf hg (fun wy hy => G wy (below_more hb hy hb.size)) (small_made hR hS hM) (right_made hR hM))
  have HT := Lib.hid (fun (fs' : List Fn) (A' GA' : Option Addr) (c' gc' : Nat) (wx : World) (hM : Made fs fs') (hf : FnsAt wx A' fs') (hg : Lies wx GA' (gs.map Value.string)) (hb : Below w.heap.size w wx) => saved_good fs' gs A' GA' c' gc' wx hf hg (fun wy hy => G wy (below_more hb hy hb.size)) (small_made hR hS hM) (right_made hR hM))
  have HU := Lib.hid (fun (fs' : List Fn) (A' GA' : Option Addr) (c' gc' : Nat) (wx : World) (hM : Made fs fs') (hf : FnsAt wx A' fs') (hg : Lies wx GA' (gs.map Value.string)) (hb : Below w.heap.size w wx) => right_walk fs' gs A' GA' c' gc' wx hf hg (G wx hb).1 (small_made hR hS hM))
  have HF := Lib.hid hF
  have HR := Lib.hid hR
  have HSS := Lib.hid hS
  clear hF hG G hS hR
  go_enter Tryz.func4, Tryz.ntmps4
  go_wp2_with (go_at_call 5; refine (HK.out _ (below1 w _)).mono ?_)
  rintro en w1 ⟨rfl, hb⟩
  have R1 := Lib.hid ((Row.made w 25 [.slice A fs.length fc, .slice GA gs.length gc]).below hb (Row.made w 25 _).lt)
  have B1 := Lib.hid (below_more (below1 w _) hb (below1 w _).size)
  have a0 := R1.out.cell 0
  have a1 := R1.out.cell 1
  have hz := R1.out.lt
  clear hb
  go_wp2_with (go_at_call 6; refine (HSM.out _ B1.out).mono ?_)
  rintro en w2 ⟨⟨b, rfl⟩, hb⟩
  have R2 := Lib.hid (R1.out.below hb R1.out.lt)
  have B2 := Lib.hid (below_more B1.out hb B1.out.size)
  clear R1 a0 a1 hz B1 hb
  have a0 := R2.out.cell 0
  have a1 := R2.out.cell 1
  have hz := R2.out.lt
  cases b
  · go_wp2_with fail
    go_ret
    exact ⟨rfl, B2.out⟩
  go_wp2_with (go_at_call 9; refine (HP.out _ B2.out).mono ?_)
  rintro en w3 ⟨fs', A', c', GA', gc', rfl, hF3, hG3, hM, hb, _, _, _⟩
  have R3 := Lib.hid ((R2.out.below hb R2.out.lt).alloc (.cells #[.slice A' fs'.length c', .slice GA' gs.length gc'] 25))
  have B3 := Lib.hid ((below_more B2.out hb B2.out.size).alloc (Nat.le_trans B2.out.size hb.size) (.cells #[.slice A' fs'.length c', .slice GA' gs.length gc'] 25))
  have Q3 := Lib.hid (Row.made w3 25 [.slice A' fs'.length c', .slice GA' gs.length gc'])
  have F3 := Lib.hid (hF3.below (below1 w3 (.cells #[.slice A' fs'.length c', .slice GA' gs.length gc'] 25)))
  have G3 := Lib.hid (hG3.below (below1 w3 (.cells #[.slice A' fs'.length c', .slice GA' gs.length gc'] 25)) rfl)
  have HM := Lib.hid hM
  have k0 := (R2.out.below hb R2.out.lt).cell 0
  have k1 := (R2.out.below hb R2.out.lt).cell 1
  have kz := (R2.out.below hb R2.out.lt).lt
  clear R2 a0 a1 hz B2 hb hM hF3 hG3
  go_wp2_with (go_at_call 10; refine (HS.out _ B3.out).mono ?_)
  rintro en w4 ⟨fsx, s1, hMx, hs1, rfl, hb⟩
  clear k0 k1 kz
  generalize w3.alloc (.cells #[.slice A' fs'.length c', .slice GA' gs.length gc'] 25) = w3b at *
  generalize w3.heap.size = gq at *
  have R4 := Lib.hid (R3.out.below hb R3.out.lt)
  have Q4 := Lib.hid (Q3.out.below hb Q3.out.lt)
  have B4 := Lib.hid (below_more B3.out hb B3.out.size)
  have F4 := Lib.hid (F3.out.below hb)
  have G4 := Lib.hid (G3.out.below hb rfl)
  have HMX := Lib.hid hMx
  have HS1 := Lib.hid hs1
  clear R3 Q3 B3 F3 G3 hb hMx hs1 HP HS HSM HK
  have a0 := R4.out.cell 0
  have a1 := R4.out.cell 1
  have hz := R4.out.lt
  have q0 := Q4.out.cell 0
  have q1 := Q4.out.cell 1
  have hq := Q4.out.lt
  go_wp2_with (go_at_call 9; refine (HQ.out fs' A' GA' c' gc' _ HM.out F4.out G4.out B4.out).mono ?_)
  rintro en w5 ⟨fs2, A2, c2, GA2, gc2, rfl, hF5, hG5, hM2, hb, _, _, _⟩
  have hl2 : fs2.length = fs'.length := hM2.1
  have R5 := Lib.hid ((R4.out.below hb R4.out.lt).alloc (.cells #[.slice A2 fs'.length c2, .slice GA2 gs.length gc2] 25))
  have Q5 := Lib.hid ((Q4.out.below hb Q4.out.lt).alloc (.cells #[.slice A2 fs'.length c2, .slice GA2 gs.length gc2] 25))
  have B5 := Lib.hid ((below_more B4.out hb B4.out.size).alloc (Nat.le_trans B4.out.size hb.size) (.cells #[.slice A2 fs'.length c2, .slice GA2 gs.length gc2] 25))
  have P5 := Lib.hid (Row.made w5 25 [.slice A2 fs'.length c2, .slice GA2 gs.length gc2])
  have F5 := Lib.hid ((F4.out.below hb).below (below1 w5 (.cells #[.slice A2 fs'.length c2, .slice GA2 gs.length gc2] 25)))
  have G5 := Lib.hid ((G4.out.below hb rfl).below (below1 w5 (.cells #[.slice A2 fs'.length c2, .slice GA2 gs.length gc2] 25)) rfl)
  have E5 := Lib.hid (hF5.below (below1 w5 (.cells #[.slice A2 fs'.length c2, .slice GA2 gs.length gc2] 25)))
  have D5 := Lib.hid (hG5.below (below1 w5 (.cells #[.slice A2 fs'.length c2, .slice GA2 gs.length gc2] 25)) rfl)
  have HM2 := Lib.hid hM2
  have k0 := (Q4.out.below hb Q4.out.lt).cell 0
  have k1 := (Q4.out.below hb Q4.out.lt).cell 1
  have kz := (Q4.out.below hb Q4.out.lt).lt
  rw [hl2]
  clear a0 a1 hz q0 q1 hq R4 Q4 B4 F4 G4 hb hF5 hG5 hM2
  go_wp2_with (go_at_call 10; refine (HT.out fs' A' GA' c' gc' _ HM.out F5.out G5.out B5.out).mono ?_)
  rintro en w6 ⟨fsy, s2, hMy, hs2, rfl, hb⟩
  obtain rfl : s2 = 0 := by
    rw [hs2, sum_twice HR.out HM.out hMy _ (Nat.le_refl _)]
    omega
  clear k0 k1 kz hMy hs2
  generalize w5.alloc (.cells #[.slice A2 fs'.length c2, .slice GA2 gs.length gc2] 25) = w5b at *
  generalize w5.heap.size = gr at *
  have R6 := Lib.hid (R5.out.below hb R5.out.lt)
  have Q6 := Lib.hid (Q5.out.below hb Q5.out.lt)
  have P6 := Lib.hid (P5.out.below hb P5.out.lt)
  have B6 := Lib.hid (below_more B5.out hb B5.out.size)
  have F6 := Lib.hid (F5.out.below hb)
  have G6 := Lib.hid (G5.out.below hb rfl)
  have E6 := Lib.hid (E5.out.below hb)
  have D6 := Lib.hid (D5.out.below hb rfl)
  clear R5 Q5 P5 B5 F5 G5 E5 D5 hb HQ HT
  have HSA := Lib.hid (show Calls Tryz.prog 17 #[.agg #[.slice A' fs'.length c', .slice GA' gs.length gc'], .agg #[.slice A2 fs'.length c2, .slice GA2 gs.length gc2]] w6 (YesB w6) from same_walk fs' fs2 gs A' A2 GA' GA2 c' c2 gc' gc2 w6 F6.out E6.out G6.out D6.out (alike_twice HR.out HM.out HM2.out) (by rw [HM.out.1]; exact HSS.out.nf) HSS.out.ng (right_bound (right_made HR.out HM.out)))
  have q0 := Q6.out.cell 0
  have q1 := Q6.out.cell 1
  have hq := Q6.out.lt
  have p0 := P6.out.cell 0
  have p1 := P6.out.cell 1
  have hp := P6.out.lt
  go_wp2_with (go_at_call 17; refine HSA.out.mono ?_)
  rintro en w7 ⟨rfl, hb⟩
  have R7 := Lib.hid (R6.out.below hb R6.out.lt)
  have Q7 := Lib.hid (Q6.out.below hb Q6.out.lt)
  have B7 := Lib.hid (below_more B6.out hb B6.out.size)
  have F7 := Lib.hid (F6.out.below hb)
  have G7 := Lib.hid (G6.out.below hb rfl)
  clear R6 Q6 P6 B6 F6 G6 E6 D6 hb HSA q0 q1 hq p0 p1 hp
  have q0 := Q7.out.cell 0
  have q1 := Q7.out.cell 1
  have hq := Q7.out.lt
  go_wp2_with (go_at_call 18; refine (HU.out fs' A' GA' c' gc' _ HM.out F7.out G7.out B7.out).mono ?_)
  rintro en w8 ⟨h, hb⟩
  rcases h with ⟨_, rfl⟩ | ⟨h, _⟩
  rotate_left
  · exact absurd (right_made HR.out HM.out) h
  have R8 := Lib.hid (R7.out.below hb R7.out.lt)
  have Q8 := Lib.hid (Q7.out.below hb Q7.out.lt)
  have F8 := Lib.hid (F7.out.below hb)
  have H8 := Lib.hid (HF.out.below (below_more B7.out hb B7.out.size))
  have B8 := Lib.hid (below_more B7.out hb B7.out.size)
  clear R7 Q7 B7 F7 G7 hb HU HF q0 q1 hq HM2
  have hl : fs'.length = fs.length := HM.out.1
  rw [hl] at Q8
  go_wp2_with fail
  go_loopw [15, 16] (fun z15 v wr => ∃ (k : Nat), v = .int .i64 k ∧ z15 = .bool (decide (sumTo fs' k < sumTo fs k)) ∧ k ≤ fs.length ∧ Hid (Row wr w.heap.size 25 [.slice A fs.length fc, .slice GA gs.length gc]) ∧ Hid (Row wr gq 25 [.slice A' fs.length c', .slice GA' gs.length gc']) ∧ Hid (FnsAt wr A' fs') ∧ Hid (FnsAt wr A fs) ∧ Hid (Below w.heap.size w wr)) (fun _ v _ => fs.length - (intOf v).toNat)
  case atStart => exact ⟨0, rfl, by simp [sumTo], Nat.zero_le _, R8, Q8, F8, H8, B8⟩
  case round =>
    clear R8 Q8 F8 H8 B8
    obtain ⟨k, rfl, rfl, hk, R8, Q8, F8, H8, B8⟩ := hrel
    have a0 := R8.out.cell 0
    have a1 := R8.out.cell 1
    have hz := R8.out.lt
    have q0 := Q8.out.cell 0
    have q1 := Q8.out.cell 1
    have hq := Q8.out.lt
    have hnf := HSS.out.nf
    by_cases hlt : k < fs.length
    · have hlt' : k < fs'.length := by omega
      obtain ⟨b, off, rfl, hbl, hc⟩ := H8.out.at_ (by omega)
      obtain ⟨b', off', rfl, hbl', hc'⟩ := F8.out.at_ (by omega)
      have c5 := (hc k hlt).2.2.2.2.2
      have d5 := (hc' k hlt').2.2.2.2.2
      have HMORE := Lib.hid (more_sum HR.out HM.out hlt hlt')
      have hi : (0 : Int) ≤ (k : Int) ∧ (k : Int) < (fs.length : Int) := by omega
      clear hc hc'
      generalize fs[k] = o at c5 HMORE
      generalize fs'[k] = o' at d5 HMORE
      cases hb : decide (sumTo fs' k < sumTo fs k)
      · rw [hb] at HMORE
        have HNEW := Lib.hid (show decide (sumTo fs' (k + 1) < sumTo fs (k + 1)) = decide ((o'.code.length : Int) < (o.code.length : Int)) from HMORE.out)
        clear HMORE hb
        go_wp2_with fail
        go_quiet (fail)
        go_wp2_with fail
        go_roundw
        case rel => exact ⟨k + 1, by go_num, by rw [HNEW.out]; exact congrArg Value.bool (decide_eq_decide.2 Int.ofNat_lt.symm), by omega, R8.out.drewN nq, Q8.out.drewN nq, F8.out.below (below_drewN (Below.refl _ _) nq), H8.out.below (below_drewN (Below.refl _ _) nq), below_drewN B8.out nq⟩
        case measure => simp [intOf]; omega
      · rw [hb] at HMORE
        have HNEW := Lib.hid (show decide (sumTo fs' (k + 1) < sumTo fs (k + 1)) = true from HMORE.out)
        clear HMORE hb
        go_wp2_with fail
        go_quiet (fail)
        go_wp2_with fail
        go_roundw
        case rel => exact ⟨k + 1, by go_num, by rw [HNEW.out], by omega, R8.out.drewN nq, Q8.out.drewN nq, F8.out.below (below_drewN (Below.refl _ _) nq), H8.out.below (below_drewN (Below.refl _ _) nq), below_drewN B8.out nq⟩
        case measure => simp [intOf]; omega
    · obtain rfl : k = fs.length := by omega
      have hsum := made_sum HM.out (fun i hi hi' => made_len HR.out HM.out hi hi') fs.length (Nat.le_refl _)
      have hs1 := HS1.out
      rw [sum_same HM.out HMX.out _ (Nat.le_refl _)] at hs1
      have h0 : (0 : Int) ≤ s1 := by omega
      have hdec : decide (sumTo fs' fs.length < sumTo fs fs.length) = decide ((0 : Int) < s1) := by
        rw [Bool.eq_iff_iff, decide_eq_true_iff, decide_eq_true_iff]
        omega
      rw [hdec]
      clear hdec hs1 hsum
      by_cases hpos : (0 : Int) < s1
      · rw [decide_eq_true hpos]
        go_wp2_with fail
        go_ret
        exact ⟨rfl, B8.out⟩
      · rw [decide_eq_false hpos]
        go_wp2_with fail
        go_ret
        exact ⟨rfl, B8.out⟩
/-- The contract of the law. -/
theorem once_any (fs : List Fn) (gs : List ByteArray) (A GA : Option Addr) (fc gc : Nat) (w : World) (hF : FnsAt w A fs) (hG : Lies w GA (gs.map Value.string)) (G : GlobP w) (O : OwnG w) (hS : Small fs gs) :
    Calls Tryz.prog 4 #[.agg #[.slice A fs.length fc, .slice GA gs.length gc]] w fun e w' => e = .returned (.bool true) ∧ Below w.heap.size w w' := by
  by_cases hR : RightP fs gs
  · exact once_good fs gs A GA fc gc w hF hG (fun wx h => ⟨G.below h, O.below h⟩) hS hR
  · exact once_bad fs gs A GA fc gc w hF hG (fun wx h => ⟨G.below h, O.below h⟩) hS hR
end Go.Proofs.YtmecmlpoallpcaaGreatDoor
