/- Texts of this proof, put together: ShA, ShB. -/
import Derived.Test.YtmecmlpoallpcaaGreatDoorM33
import Derived.ScopeJumps
import Derived.WalkMore
set_option linter.unusedSimpArgs false
/- slices.Clone of instructions (52), slices.Contains and Index of flags (55, 89). -/
namespace Go.Proofs.YtmecmlpoallpcaaGreatDoor
set_option linter.unusedVariables false
open Go.RowKit Go.Proofs.PeepPlain

def laysSlE041_f52_ren : Go.Shelf.Ren := ⟨fun | 41 => 52 | n => n, fun | 22 => 45 | 23 => 50 | 4 => 4 | n => n, fun | n => n⟩
theorem laysSlE041_f52 : Go.Proofs.SlLaysE0.n41 Tryz.prog laysSlE041_f52_ren := {
  mixed := by kernel_rfl
  f41 := ⟨Tryz.f52.name, by decide, Tryz.func52.trans (congrArg some (by kernel_rfl))⟩
  t4 := Tryz.underlying4
  a4 := Tryz.isAgg4
  z4 := Tryz.sizeOf4
  v4 := Tryz.zeroValue4
  t22 := Tryz.underlying45
  a22 := Tryz.isAgg45
  z22 := Tryz.sizeOf45
  v22 := Tryz.zeroValue45 }
theorem clone_walk (l : List Ins) (A : Option Addr) (c : Nat) (w : World) (hA : InsAt w A l) (hp : 0 < l.length) (hl : l.length ≤ 100000) :
    Calls Tryz.prog 52 #[.slice A l.length c] w fun e w' => ∃ v, e = .returned v ∧ OwnP w.heap.size w' v l ∧ Below w.heap.size w w' := by
  obtain ⟨b, off, rfl, hlt, hc⟩ := hA (by rw [flatI_length]; omega)
  obtain ⟨i0, hi, hz0, hz1, hz2⟩ := info_parts info50
  refine (AnyE.slices_Clone laysSlE041_f52 i0 _ 5 48 hi hz0 hz1 hz2 rfl (by omega) (fun w => Tryz.sizeOf50 w) b off l.length c (flatI l) w (flatI_length l) (by unfold maxLen; omega) (by omega) hc (flatI_one l)).mono ?_
  rintro e w' ⟨v, he, ho, _, hb⟩
  exact ⟨v, he, ho, hb⟩
set_option maxHeartbeats 2000000 in
theorem indexb_walk (out : List Bool) (g c : Nat) (w : World) (R : Row w g 4 (boolC out)) (hl : out.length ≤ 100000) :
    Calls Tryz.prog 89 #[.slice (some ⟨g, 0, none⟩) out.length c, .bool true] w fun e w' => (∃ r : Int, e = .returned (.int .i64 r) ∧ decide (0 ≤ r) = out.any id) ∧ w' = w := by
  have HR := Lib.hid R
  clear R
  go_enter Tryz.func89, Tryz.ntmps89
  go_wp2_with fail
  go_loopw [4, 5, 8] (fun z4 z5 v wr => ∃ k : Nat, wr = w ∧ v = .int .i64 k ∧ k ≤ out.length ∧ Hid (∀ j, (hj : j < out.length) → j < k → out[j] = false)) (fun _ _ v _ => out.length - (intOf v).toNat)
  case atStart => exact ⟨0, rfl, rfl, Nat.zero_le _, Lib.hid (fun j _ h => by omega)⟩
  case round =>
    obtain ⟨k, rfl, rfl, hk, HN⟩ := hrel
    by_cases hlt : k < out.length
    · have ck := bool_at HR.out hlt
      have hgd : out.getD k false = out[k] := by rw [List.getD_eq_getElem?_getD, List.getElem?_eq_getElem hlt]; rfl
      rw [hgd] at ck
      have hi : (0 : Int) ≤ (k : Int) ∧ (k : Int) < (out.length : Int) := by omega
      cases ho : out[k]
      · rw [ho] at ck
        have HK := Lib.hid (show ∀ j, (hj : j < out.length) → j < k + 1 → out[j] = false from fun j hj hjk => by
          by_cases e : j = k
          · subst e; exact ho
          · exact HN.out j hj (by omega))
        clear ho hgd
        go_wp2_with fail
        go_roundw
        case rel => exact ⟨k + 1, trivial, by go_num, by omega, HK⟩
        case measure => simp [intOf]; omega
      · rw [ho] at ck
        have HANY := Lib.hid (show out.any id = true from List.any_eq_true.2 ⟨out[k], List.getElem_mem hlt, ho⟩)
        clear ho hgd
        go_wp2_with fail
        go_ret
        exact ⟨⟨_, rfl, by rw [HANY.out]; exact decide_eq_true (by omega)⟩, rfl⟩
    · obtain rfl : k = out.length := by omega
      have HANY := Lib.hid (show out.any id = false from by
        rw [List.any_eq_false]
        intro x hx
        obtain ⟨j, hj, rfl⟩ := List.getElem_of_mem hx
        rw [HN.out j hj hj]
        exact Bool.false_ne_true)
      go_wp2_with fail
      go_ret
      exact ⟨⟨_, rfl, by rw [HANY.out]; rfl⟩, rfl⟩
theorem containsb_walk (out : List Bool) (g c : Nat) (w : World) (R : Row w g 4 (boolC out)) (hl : out.length ≤ 100000) :
    Calls Tryz.prog 55 #[.slice (some ⟨g, 0, none⟩) out.length c, .bool true] w fun e w' => e = .returned (.bool (out.any id)) ∧ w' = w := by
  have hx := indexb_walk out g c w R hl
  clear R
  generalize out.any id = b at hx
  go_enter Tryz.func55, Tryz.ntmps55
  go_wp2_with (go_at_call 89; refine hx.mono ?_)
  rintro en w2 ⟨⟨r, rfl, hr⟩, rfl⟩
  go_wp2
  go_ret
  exact ⟨ret_bool rfl, rfl⟩
/-- Some flag stands: as the plain laws say it. -/
theorem any_some {l : List Ins} {out : List Bool} (h : out.length = l.length) : out.any id = true ↔ Some_ l out := by
  constructor
  · intro ha
    obtain ⟨x, hx, hx2⟩ := List.any_eq_true.1 ha
    obtain ⟨k, hk, rfl⟩ := List.getElem_of_mem hx
    exact ⟨k, by omega, by rw [List.getD_eq_getElem?_getD, List.getElem?_eq_getElem hk]; exact hx2⟩
  · rintro ⟨k, hk, ho⟩
    have hk2 : k < out.length := by omega
    rw [List.getD_eq_getElem?_getD, List.getElem?_eq_getElem hk2] at ho
    exact List.any_eq_true.2 ⟨out[k], List.getElem_mem hk2, ho⟩
end Go.Proofs.YtmecmlpoallpcaaGreatDoor

/- peep.shorter: what stays from pass to pass, plain. No walk. -/
namespace Go.Proofs.YtmecmlpoallpcaaGreatDoor
set_option linter.unusedVariables false
open Go.RowKit Go.Proofs.PeepPlain

/-- An instruction that may be looked at, its text short. -/
def PI (i : Ins) : Prop := InsOk i ∧ i.text.size ≤ 2000000
theorem lay_pi {d : Cst} (h : CstOk d) (p : Int) : PI (layOf d p) := by
  cases d with
  | int n =>
    refine ⟨⟨fun _ => ⟨n, digits_itoa h.1 h.2⟩, fun h6 => ?_⟩, ?_⟩
    · exact absurd (show (3 : Int) = 6 from h6) (by decide)
    · have := Lib.itoa_length_le n h.1 h.2
      show (Lib.itoa n).toArray.size ≤ 2000000
      rw [List.size_toArray]
      omega
  | flag n =>
    refine ⟨⟨fun h3 => ?_, fun _ => h⟩, ?_⟩
    · exact absurd (show (6 : Int) = 3 from h3) (by decide)
    · show (0 : Nat) ≤ 2000000
      omega
theorem o0_closed : Closed O0 PI where
  turn := fun i x hj h => by
    refine ⟨⟨fun h3 => ?_, fun h6 => ?_⟩, h.2⟩
    · have h3 : i.op = 3 := h3
      rw [h3] at hj
      rcases hj with h | h | h | h | h <;> exact absurd h (by decide)
    · have h6 : i.op = 6 := h6
      rw [h6] at hj
      rcases hj with h | h | h | h | h <;> exact absurd h (by decide)
  un := fun i k c d _ _ hk hc hd => lay_pi (unOf_ok (op := i.text) (a := c) hd) _
  bi := fun i j k b c d _ _ hj hk hb hc hd => lay_pi (biOf_ok (op := i.text) (b := b) (a := c) (cst_ok hj.1 hb) hd) _
  branch := fun i _ h => by
    refine ⟨⟨fun h3 => ?_, fun h6 => ?_⟩, ?_⟩
    · exact absurd (show (34 : Int) = 3 from h3) (by decide)
    · exact absurd (show (34 : Int) = 6 from h6) (by decide)
    · show (0 : Nat) ≤ 2000000
      omega
/-- Where the going over stands behind k instructions. -/
noncomputable def foldTo (l : List Ins) (k : Nat) : FSt := foldFrom O0 (List.range' 0 k) (fold0 l (marks l))
theorem foldFrom_app (a b : List Nat) (S : FSt) : foldFrom O0 (a ++ b) S = foldFrom O0 b (foldFrom O0 a S) := by
  induction a generalizing S with
  | nil => rfl
  | cons k r ih => exact ih _
theorem foldTo_succ (l : List Ins) (k : Nat) : foldTo l (k + 1) = foldMany O0 ⟨(foldTo l k).l, (foldTo l k).mark, (foldTo l k).out, k :: (foldTo l k).ks⟩ := by
  unfold foldTo
  rw [List.range'_concat, foldFrom_app]
  simp only [Nat.zero_add, Nat.one_mul]
  rfl
theorem foldTo_all (l : List Ins) : foldTo l l.length = folded O0 l := rfl
theorem folds_len (S : FSt) : (folds O0 S).1.ks.length ≤ S.ks.length := by
  cases h : (folds O0 S).2 with
  | true => exact Nat.le_of_lt (folds_less O0 S h)
  | false =>
    cases hks : S.ks with
    | nil => rw [show folds O0 S = (S, false) by unfold folds; rw [hks]]; rw [hks]; exact Nat.le_refl _
    | cons top ks1 =>
      cases ks1 with
      | nil => rw [show folds O0 S = (S, false) by unfold folds; rw [hks]]; rw [hks]; exact Nat.le_refl _
      | cons k r =>
        cases hm : S.mark.getD top true
        · have hq : S.ks.length = r.length + 2 := by rw [hks]; rfl
          have hq1 : (S, false).1.ks.length ≤ (top :: k :: r).length := by rw [← hks]; exact Nat.le_refl _
          rw [folds_eq hks hm]
          clear h
          cases cstOf (S.l.getD k default) with
          | none => exact hq1
          | some a =>
            dsimp only
            split
            · cases unOf (S.l.getD top default).text a with
              | none => exact hq1
              | some d => simp
            · split
              · split
                · exact hq1
                · split
                  · simp; omega
                  · simp
              · split
                · cases r with
                  | nil => exact hq1
                  | cons j r2 =>
                    dsimp only
                    split
                    · exact hq1
                    · cases cstOf (S.l.getD j default) with
                      | none => exact hq1
                      | some b =>
                        dsimp only
                        cases biOf (S.l.getD top default).text b a with
                        | none => exact hq1
                        | some d => simp
                · exact hq1
        · rw [folds_eq0 hks hm, hks]; exact Nat.le_refl _
theorem foldMany_len : ∀ (n : Nat) (S : FSt), S.ks.length ≤ n → (foldMany O0 S).ks.length ≤ S.ks.length := by
  intro n
  induction n with
  | zero =>
    intro S h
    rw [foldMany]
    split
    · rename_i h2
      have := folds_less O0 S h2
      omega
    · exact folds_len S
  | succ n ih =>
    intro S h
    rw [foldMany]
    split
    · rename_i h2
      have h3 := folds_less O0 S h2
      exact Nat.le_trans (ih _ (by omega)) (Nat.le_of_lt h3)
    · exact folds_len S
theorem foldTo_len (l : List Ins) (k : Nat) : (foldTo l k).ks.length ≤ k := by
  induction k with
  | zero => exact Nat.le_refl _
  | succ k ih =>
    rw [foldTo_succ]
    refine Nat.le_trans (foldMany_len _ _ (Nat.le_refl _)) ?_
    show (k :: (foldTo l k).ks).length ≤ k + 1
    rw [List.length_cons]
    omega
/-- What holds of the going over all the way. -/
structure Inv (l0 : List Ins) (S : FSt) : Prop where
  well : Well l0 S
  each : All PI S.l
theorem inv_folds {l0 : List Ins} {S : FSt} (h : Inv l0 S) : Inv l0 (folds O0 S).1 :=
  ⟨folds_well o0_fair h.well, (folds_each o0_closed (fun k hk => by rw [h.well.len]; exact h.well.sorted k hk) h.each).1⟩
theorem inv_many {l0 : List Ins} {S : FSt} (h : Inv l0 S) : Inv l0 (foldMany O0 S) :=
  ⟨foldMany_well o0_fair _ _ (Nat.le_refl _) h.well, (foldMany_each o0_closed _ _ (Nat.le_refl _) (fun k hk => by rw [h.well.len]; exact h.well.sorted k hk) h.each).1⟩
theorem foldTo_inv {l : List Ins} (hp : All PI l) : ∀ k, k ≤ l.length → Inv l (foldTo l k) ∧ ∀ j ∈ (foldTo l k).ks, j < k := by
  intro k
  induction k with
  | zero => intro _; exact ⟨⟨fold0_well l _, hp⟩, fun j hj => by simp [foldTo, foldFrom, fold0] at hj⟩
  | succ k ih =>
    intro hk
    obtain ⟨h1, h2⟩ := ih (by omega)
    rw [foldTo_succ]
    refine ⟨inv_many ⟨well_push h1.well (show k < l.length by omega) h2, h1.each⟩, fun j hj => ?_⟩
    have := foldMany_sub (O := O0) _ _ (Nat.le_refl _) j hj
    rcases List.mem_cons.1 this with rfl | h
    · omega
    · have := h2 j h; omega
theorem push_inv {l : List Ins} (hp : All PI l) {k : Nat} (hk : k < l.length) : Inv l ⟨(foldTo l k).l, (foldTo l k).mark, (foldTo l k).out, k :: (foldTo l k).ks⟩ := by
  obtain ⟨h1, h2⟩ := foldTo_inv hp k (Nat.le_of_lt hk)
  exact ⟨well_push h1.well hk h2, h1.each⟩
theorem last_branch {l : List Ins} (W : WF l) : ∀ i, i < l.length → (l.getD i default).op = 35 → i + 1 < l.length := fun i hi ho => by
  by_cases e : i + 1 < l.length
  · exact e
  · have hl := W.last
    rw [show l.length - 1 = i by omega] at hl
    have : PeepPlain.opAt l i = 35 := ho
    rw [this] at hl
    rcases hl with h | h <;> exact absurd h (by decide)
/-- Which are left out, the first k looked at. -/
noncomputable def idleTo (l : List Ins) (k : Nat) : List Bool := (idle l).take k ++ (reachL l).drop k
theorem idle_length (l : List Ins) : (idle l).length = l.length := (idle_is l).1
theorem reachL_length (l : List Ins) : (reachL l).length = l.length := by simp [reachL]
theorem idleTo_zero (l : List Ins) : idleTo l 0 = reachL l := by simp [idleTo]
theorem idleTo_all (l : List Ins) : idleTo l l.length = idle l := by
  unfold idleTo
  rw [List.take_of_length_le (by rw [idle_length]; exact Nat.le_refl _), List.drop_of_length_le (by rw [reachL_length]; exact Nat.le_refl _), List.append_nil]
theorem idleTo_length (l : List Ins) {k : Nat} (hk : k ≤ l.length) : (idleTo l k).length = l.length := by
  unfold idleTo
  rw [List.length_append, List.length_take, List.length_drop, idle_length, reachL_length]
  omega
theorem idleTo_at (l : List Ins) {k : Nat} (hk : k < l.length) : (idleTo l k).getD k false = (reachL l).getD k false := by
  unfold idleTo
  rw [List.getD_eq_getElem?_getD, List.getD_eq_getElem?_getD, List.getElem?_append_right (by rw [List.length_take, idle_length]; omega), List.length_take, idle_length, List.getElem?_drop, show k + (k - min k l.length) = k by omega]
theorem idleTo_set (l : List Ins) {k : Nat} (hk : k < l.length) {b : Bool} (hb : (idle l).getD k false = b) : (idleTo l k).set k b = idleTo l (k + 1) := by
  have h1 : k < (idle l).length := by rw [idle_length]; exact hk
  have h2 : k < (reachL l).length := by rw [reachL_length]; exact hk
  have hbk : (idle l)[k] = b := by rw [← hb, List.getD_eq_getElem?_getD, List.getElem?_eq_getElem h1]; rfl
  unfold idleTo
  have hlen : ((idle l).take k).length = k := by rw [List.length_take]; omega
  rw [List.set_append_right _ _ (by omega), hlen, Nat.sub_self, List.drop_eq_getElem_cons h2, List.set_cons_zero, List.take_succ_eq_append_getElem h1, hbk, List.append_assoc]
  rfl
end Go.Proofs.YtmecmlpoallpcaaGreatDoor
