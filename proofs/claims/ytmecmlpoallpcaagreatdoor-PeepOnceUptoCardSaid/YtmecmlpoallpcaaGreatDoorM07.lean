/- Texts of this proof, put together: Seek, WalkB, InsRow. -/
import Derived.Test.YtmecmlpoallpcaaGreatDoorM06
set_option linter.unusedSimpArgs false
/- Plain law: what is come to, found by a list of what is still to be looked at. No walk. -/
namespace Go.Proofs.YtmecmlpoallpcaaGreatDoor
set_option linter.unusedVariables false
open Go.RowKit Go.Proofs.PeepPlain

/-- What was seen, what is still to be looked at. -/
structure Seek (l : List Ins) (is : List Bool) (todo : List Int) : Prop where
  len : is.length = l.length
  here : ∀ k, is.getD k false = true → PeepPlain.Reach l k
  want : ∀ t ∈ todo, ∃ k : Nat, t = (k : Int) ∧ PeepPlain.Reach l k
  zero : is.getD 0 false = true ∨ (0 : Int) ∈ todo
  next : ∀ k, k < l.length → is.getD k false = true → opAt l k ≠ 34 → opAt l k ≠ 50 → is.getD (k + 1) false = true ∨ ((k + 1 : Nat) : Int) ∈ todo
  toA : ∀ k, k < l.length → is.getD k false = true → jumps (opAt l k) → is.getD (aAt l k) false = true ∨ ((aAt l k : Nat) : Int) ∈ todo
  few : 3 * is.count false + todo.length ≤ 3 * l.length + 1
theorem seek_start (l : List Ins) : Seek l (List.replicate l.length false) [0] where
  len := by simp
  here := fun k h => by rw [replicate_no] at h; cases h
  want := fun t ht => by simp at ht; exact ⟨0, by simp [ht], .zero⟩
  zero := .inr (by simp)
  next := fun k _ h => by rw [replicate_no] at h; cases h
  toA := fun k _ h => by rw [replicate_no] at h; cases h
  few := by simp
theorem in_pop {t k : Int} {ts : List Int} (h : t ∈ ts ++ [k]) : t = k ∨ t ∈ ts := by
  rcases List.mem_append.1 h with h | h
  · exact .inr h
  · exact .inl (by simpa using h)
theorem seek_seen {l : List Ins} {is : List Bool} {ts : List Int} {k : Nat} (S : Seek l is (ts ++ [(k : Int)])) (h : is.getD k false = true) : Seek l is ts := by
  have key : ∀ m : Nat, is.getD m false = true ∨ (m : Int) ∈ ts ++ [(k : Int)] → is.getD m false = true ∨ (m : Int) ∈ ts := fun m hm => by
    rcases hm with h1 | h1
    · exact .inl h1
    · rcases in_pop h1 with e | h2
      · have : m = k := by omega
        subst this
        exact .inl h
      · exact .inr h2
  exact ⟨S.len, S.here, fun t ht => S.want t (by simp [ht]), key 0 S.zero, fun j h1 h2 h3 h4 => key _ (S.next j h1 h2 h3 h4), fun j h1 h2 h3 => key _ (S.toA j h1 h2 h3), by have := S.few; simp at this; omega⟩
theorem count_set {is : List Bool} {k : Nat} (hk : k < is.length) (h : is.getD k false = false) : (is.set k true).count false + 1 = is.count false := by
  induction is generalizing k with
  | nil => simp at hk
  | cons b r ih =>
    cases k with
    | zero =>
      have : b = false := by simpa using h
      subst this
      simp
    | succ k =>
      have := ih (k := k) (by simpa using hk) (by simpa using h)
      simp only [List.set_cons_succ, List.count_cons]
      omega
/-- What comes behind k. -/
def behind (l : List Ins) (k : Nat) : List Int := (if opAt l k ≠ 34 ∧ opAt l k ≠ 50 then [((k + 1 : Nat) : Int)] else []) ++ (if jumps (opAt l k) then [((aAt l k : Nat) : Int)] else [])
theorem behind_length (l : List Ins) (k : Nat) : (behind l k).length ≤ 2 := by
  unfold behind
  split <;> split <;> simp
theorem seek_new {l : List Ins} {is : List Bool} {ts : List Int} {k : Nat} (S : Seek l is (ts ++ [(k : Int)])) (hk : k < l.length) (h : is.getD k false = false) : Seek l (is.set k true) (ts ++ behind l k) := by
  have hr : PeepPlain.Reach l k := by
    obtain ⟨j, e, hj⟩ := S.want k (by simp)
    have : k = j := by omega
    subst this
    exact hj
  have hlen : k < is.length := by rw [S.len]; exact hk
  have mono : ∀ m, is.getD m false = true → (is.set k true).getD m false = true := fun m hm => (out_set hlen m).2 (.inr hm)
  have me : (is.set k true).getD k false = true := (out_set hlen k).2 (.inl rfl)
  have key : ∀ m : Nat, is.getD m false = true ∨ (m : Int) ∈ ts ++ [(k : Int)] → (is.set k true).getD m false = true ∨ (m : Int) ∈ ts ++ behind l k := fun m hm => by
    rcases hm with h1 | h1
    · exact .inl (mono m h1)
    · rcases in_pop h1 with e | h2
      · have : m = k := by omega
        subst this
        exact .inl me
      · exact .inr (by simp [h2])
  refine ⟨by simp [S.len], fun m hm => ?_, fun t ht => ?_, key 0 S.zero, fun j h1 h2 h3 h4 => ?_, fun j h1 h2 h3 => ?_, ?_⟩
  · rcases (out_set hlen m).1 hm with rfl | h1
    · exact hr
    · exact S.here m h1
  · rcases List.mem_append.1 ht with h1 | h1
    · exact S.want t (by simp [h1])
    · unfold behind at h1
      rcases List.mem_append.1 h1 with h2 | h2
      · split at h2
        · rename_i hc
          simp only [List.mem_singleton] at h2
          exact ⟨k + 1, h2, .next hr hk hc.1 hc.2⟩
        · simp at h2
      · split at h2
        · rename_i hc
          simp only [List.mem_singleton] at h2
          exact ⟨aAt l k, h2, .toA hr hk hc⟩
        · simp at h2
  · rcases (out_set hlen j).1 h2 with rfl | h5
    · refine .inr (List.mem_append.2 (.inr ?_))
      unfold behind
      rw [if_pos ⟨h3, h4⟩]
      simp
    · exact key _ (S.next j h1 h5 h3 h4)
  · rcases (out_set hlen j).1 h2 with rfl | h5
    · refine .inr (List.mem_append.2 (.inr ?_))
      unfold behind
      rw [if_pos h3]
      simp
    · exact key _ (S.toA j h1 h5 h3)
  · have h1 := count_set hlen h
    have h2 := behind_length l k
    have h3 := S.few
    simp only [List.length_append, List.length_singleton] at h3 ⊢
    omega
/-- Nothing is left to be looked at: all was seen. -/
theorem seek_end {l : List Ins} {is : List Bool} (W : WF l) (S : Seek l is []) (k : Nat) : is.getD k false = true ↔ PeepPlain.Reach l k := by
  refine ⟨S.here k, fun h => ?_⟩
  induction h with
  | zero => exact S.zero.resolve_right (by simp)
  | next _ h1 h2 h3 ih => exact (S.next _ h1 ih h2 h3).resolve_right (by simp)
  | toA _ h1 h2 ih => exact (S.toA _ h1 ih h2).resolve_right (by simp)
/-- What is come to, as a list. -/
noncomputable def reachL (l : List Ins) : List Bool := by
  classical
  exact (List.range l.length).map fun k => decide (PeepPlain.Reach l k)
theorem reachL_get {l : List Ins} {k : Nat} (h : k < l.length) : (reachL l).getD k false = true ↔ PeepPlain.Reach l k := by
  unfold reachL
  rw [List.getD_eq_getElem?_getD, List.getElem?_map, List.getElem?_range h]
  simp
theorem seek_list {l : List Ins} {is : List Bool} (W : WF l) (S : Seek l is []) : is = reachL l := by
  apply List.ext_getElem
  · rw [S.len]; simp [reachL]
  · intro i h1 h2
    have hi : i < l.length := by rw [← S.len]; exact h1
    have e1 : is.getD i false = is[i] := by rw [List.getD_eq_getElem?_getD, List.getElem?_eq_getElem h1]; rfl
    have e2 : (reachL l).getD i false = (reachL l)[i] := by rw [List.getD_eq_getElem?_getD, List.getElem?_eq_getElem h2]; rfl
    rw [← e1, ← e2]
    have := (seek_end W S i).trans (reachL_get hi).symm
    cases h3 : is.getD i false <;> cases h4 : (reachL l).getD i false <;> simp_all
/-! ### How much is still to be done -/
def isNo : Value → Bool
  | .bool false => true
  | _ => false
def noes (w : World) (g : Nat) : Nat := match w.heap[g]? with
  | some (.cells cs _ _) => cs.toList.countP isNo
  | _ => 0
theorem noes_row {w : World} {g : Nat} {is : List Bool} (h : Row w g 4 (boolC is)) : noes w g = is.count false := by
  unfold Row at h
  unfold noes
  rw [h]
  show (boolC is).countP isNo = _
  unfold boolC
  clear h
  induction is with
  | nil => rfl
  | cons b r ih =>
    simp only [List.map_cons, List.countP_cons, List.count_cons]
    rw [ih]
    cases b <;> rfl
def lenOf : Value → Nat
  | .slice _ n _ => n
  | _ => 0
end Go.Proofs.YtmecmlpoallpcaaGreatDoor

/- peep.reached: what is come to. Condition: the code is right but for the stack, and not long. -/
namespace Go.Proofs.YtmecmlpoallpcaaGreatDoor
set_option linter.unusedVariables false
open Go.RowKit Go.Proofs.PeepPlain

theorem bool_at {w : World} {g k : Nat} {is : List Bool} (h : Row w g 4 (boolC is)) (hk : k < is.length) : w.cell? ⟨g, k, none⟩ = some (.bool (is.getD k false)) := by
  rw [h.cell]
  unfold boolC
  rw [List.getElem?_map, List.getElem?_eq_getElem hk, List.getD_eq_getElem?_getD, List.getElem?_eq_getElem hk]
  rfl
theorem lit_own (w : World) (n : Int) : OwnI w.heap.size (w.alloc (.cells #[.int .i64 n] 3)) (.slice (some ⟨w.heap.size, 0, none⟩) 1 1) [n] :=
  World.ownsRow_lit w #[.int .i64 n] 1 (Nat.le_refl _) (by simp [maxLen]) (by simp)
theorem reach_nat {l : List Ins} {is : List Bool} {ts : List Int} {x : Int} (S : Seek l is (ts ++ [x])) (W : WF l) : ∃ k : Nat, x = (k : Int) ∧ k < l.length := by
  obtain ⟨k, e, hr⟩ := S.want x (by simp)
  exact ⟨k, e, reach_lt W hr⟩
theorem list_end {l : List Int} (h : 0 < l.length) : ∃ ts x, l = ts ++ [x] := by
  have hne : l ≠ [] := List.length_pos_iff.1 h
  exact ⟨l.dropLast, l.getLast hne, (List.dropLast_concat_getLast hne).symm⟩
theorem InsAt.lowB {w w' : World} {A : Option Addr} {l : List Ins} {B : Nat} (h : InsAt w A l) (ho : 0 < l.length → ∀ a, A = some a → a.block < B) (hb : Below B w w') : InsAt w' A l := fun hp => by
  obtain ⟨b, off, e, hlt, hc⟩ := h hp
  have := ho (by rw [flatI_length] at hp; omega) _ e
  exact ⟨b, off, e, Nat.lt_of_lt_of_le hlt hb.size, fun j u hu => (hb.cell (p := ⟨b, off + j, none⟩) this).trans (hc j u hu)⟩
theorem own_len {Bo : Nat} {w : World} {v : Value} {l : List Int} (h : OwnI Bo w v l) : lenOf v = l.length := by
  obtain ⟨B, d, e⟩ := h.shape
  rw [e]
  rfl
theorem own_ne {g g2 n c s : Nat} (h : (Value.slice (some ⟨g, 0, none⟩) n c).ownBlock = some g2) (hs : s + 1 ≤ g) : g2 ≠ s := by
  have e : g = g2 := by injection h
  omega
theorem behind_34 {l : List Ins} {k : Nat} (h : opAt l k = 34) : behind l k = [((aAt l k : Nat) : Int)] := by
  unfold behind
  rw [if_neg (by rintro ⟨h1, _⟩; exact h1 h), if_pos (.inl h)]
  rfl
theorem behind_50 {l : List Ins} {k : Nat} (h : opAt l k = 50) : behind l k = [] := by
  unfold behind
  rw [if_neg (by rintro ⟨_, h1⟩; exact h1 h), if_neg (by rw [h]; rintro (h | h | h | h | h) <;> omega)]
  rfl
theorem behind_jump {l : List Ins} {k : Nat} (h1 : opAt l k ≠ 34) (h2 : opAt l k ≠ 50) (h3 : jumps (opAt l k)) : behind l k = [((k + 1 : Nat) : Int), ((aAt l k : Nat) : Int)] := by
  unfold behind
  rw [if_pos ⟨h1, h2⟩, if_pos h3]
  rfl
theorem behind_next {l : List Ins} {k : Nat} (h1 : opAt l k ≠ 34) (h2 : opAt l k ≠ 50) (h3 : ¬ jumps (opAt l k)) : behind l k = [((k + 1 : Nat) : Int)] := by
  unfold behind
  rw [if_pos ⟨h1, h2⟩, if_neg h3]
  rfl
set_option maxRecDepth 200000 in
set_option maxHeartbeats 8000000 in
theorem reached_walk (l : List Ins) (A : Option Addr) (c : Nat) (w : World) (W : WF l) (hA : InsAt w A l) (hl : l.length ≤ 100000) :
    Calls Tryz.prog 54 #[.slice A l.length c] w fun e w' => e = .returned (.slice (some ⟨w.heap.size, 0, none⟩) l.length l.length) ∧ Row w' w.heap.size 4 (boolC (reachL l)) ∧ Below w.heap.size w w' := by
  have hmk := make_bools l.length (by omega) w
  have HA := Lib.hid hA
  have HW := Lib.hid W
  have HO := Lib.hid hA.old
  clear hA W
  go_enter Tryz.func54, Tryz.ntmps54
  go_wp2_with fail
  go_loopw [4, 5, 6] (fun td z1 z2 wr => ∃ (is : List Bool) (todo : List Int), Hid (OwnI (w.heap.size + 1) wr td todo) ∧ Hid (Row wr w.heap.size 4 (boolC is)) ∧ Hid (Seek l is todo) ∧ Hid (InsAt wr A l) ∧ Hid (Below w.heap.size w wr)) (fun td _ _ wr => 3 * noes wr w.heap.size + lenOf td)
  case atStart => exact ⟨_, [0], Lib.hid (by have := lit_own (w.alloc (.cells (boolC (List.replicate l.length false)).toArray 4)) 0; simpa using this), Lib.hid ((Row.made w 4 (boolC (List.replicate l.length false))).alloc _), seek_start l, (HA.out.below (below1 w _)).below (below1 _ _), (below1 w _).alloc (by simp) _⟩
  case round =>
    clear HA hmk
    rename World => w2
    obtain ⟨is, todo, HT, HR, HS, HA, HB⟩ := hrel
    obtain ⟨T, cp, rfl⟩ := HT.out.shape
    by_cases h0 : 0 < todo.length
    · obtain ⟨ts, x, rfl⟩ := list_end h0
      obtain ⟨k, rfl, hk⟩ := reach_nat HS.out HW.out
      obtain ⟨g, rfl, hgn, hgc, hgm⟩ := HT.out.addr h0
      have htl : (ts ++ [(k : Int)]).length = ts.length + 1 := by simp
      have hfew := HS.out.few
      have hlast := HT.out.cell ts.length (by omega)
      rw [List.getElem_append_right (Nat.le_refl _)] at hlast
      simp only [Nat.sub_self, List.getElem_cons_zero] at hlast
      have hsh := Lib.hid HT.out.shrink
      have hgb := Lib.hid (HT.out.lt (g := g) rfl).1
      have hkb : k < is.length := by rw [HS.out.len]; exact hk
      have hbk := bool_at HR.out hkb
      have hi : (0 : Int) ≤ (k : Int) ∧ (k : Int) < (l.length : Int) := by omega
      rw [htl]
      rw [htl] at hgc
      obtain ⟨n, hn⟩ : ∃ n, n = ts.length := ⟨_, rfl⟩
      rw [← hn] at hlast hgc ⊢
      have hj : (0 : Int) ≤ (n : Int) ∧ (n : Int) < ((n + 1 : Nat) : Int) := by omega
      have hn1 : wrap64 (((n + 1 : Nat) : Int) - 1) = (n : Int) := by
        unfold wrap64
        omega
      have hw1 : wrap64 (n : Int) = (n : Int) := by
        unfold wrap64
        omega
      have HN := Lib.hid hn
      have HH : Hid (ts.length ≤ 1000000) := Lib.hid (by simp only [List.length_append, List.length_singleton] at hfew; omega)
      have hs2 : Hid (OwnI (w.heap.size + 1) w2 (.slice (some ⟨g, 0, none⟩) n cp) ts) := Lib.hid (by rw [hn]; exact hsh.out)
      have hgl := Lib.hid (HT.out.lt (g := g) rfl).2
      clear hsh
      have hsh := hs2
      clear hs2 hn hfew htl hgn hn1
      by_cases hseen : is.getD k false = true
      · rw [hseen] at hbk
        have S2 := Lib.hid (seek_seen HS.out hseen)
        clear hseen
        go_wp2_with fail
        go_roundw
        case rel => exact ⟨is, ts, hsh, HR, S2, HA, HB⟩
        case measure => simp [lenOf]
      · have hno : is.getD k false = false := by simpa using hseen
        rw [hno] at hbk
        have S2 := Lib.hid (seek_new HS.out hk hno)
        have hcnt := Lib.hid (count_set hkb hno)
        have hsetr : Hid ((boolC is).set k (.bool true) = boolC (is.set k true)) := Lib.hid (by rw [boolC_set])
        have HM := Lib.hid (noes_row HR.out)
        obtain ⟨b, off, rfl, hbl, hc⟩ := HA.out.at_ (by omega)
        obtain ⟨c0, c1, _, _, _⟩ := hc k hk
        have hbo : b < w.heap.size := HO.out (by omega) _ rfl
        have hbg : b ≠ w.heap.size := by omega
        clear hc hseen
        obtain ⟨o, ho⟩ : ∃ o, o = l[k].op := ⟨_, rfl⟩
        have hoo : opAt l k = o := by rw [op_get hk, ho]
        rw [← ho] at c0
        by_cases q1 : o = 34
        · have hj : jumps (opAt l k) := by rw [hoo, q1]; exact .inl rfl
          have ha := a_get hk (HW.out.low k hk hj)
          rw [ha] at c1
          have Hb := Lib.hid (behind_34 (hoo.trans q1))
          subst q1
          have hd : decide (jumps 34) = true := by decide
          clear ho hoo hj ha
          go_wp2_with (first
            | (refine put_at (.tmp 31) _ 4 w.heap.size k 4 (boolC is) [.bool true] _ _ rfl rfl rfl rfl rfl size4 (by simp [Value.oneCell']) HR.out (by rw [boolC_length]; simp; omega) ?_; intro w4 hr4 hb4 hf4
               have d0 := (World.cell?_of_block (a := ⟨b, off + k * 5, none⟩) (hf4 b hbg)).trans c0
               have d1 := (World.cell?_of_block (a := ⟨b, off + k * 5 + 1, none⟩) (hf4 b hbg)).trans c1
               have O4 : Hid (OwnI (w.heap.size + 1) w4 (.slice (some ⟨g, 0, none⟩) n cp) ts) := Lib.hid (own_same hsh.out fun g2 h2 => hf4 g2 (own_ne h2 hgb.out))
               have R4 : Hid (Row w4 w.heap.size 4 (boolC (is.set k true))) := Lib.hid (by rw [← hsetr.out, ← set_take_drop _ _ _ (by rw [boolC_length]; exact hkb)]; exact hr4)
               have B4 := Lib.hid (HB.out.trans (hb4 w.heap.size (Nat.le_refl _)))
               have A4 := Lib.hid (HA.out.far (fun hp a ha => by have := HO.out hp a ha; omega) (hb4 w.heap.size (Nat.le_refl _)).size hf4)
               have z4 : w.heap.size + 1 ≤ w4.heap.size := Nat.le_trans (by have := hgb.out; have := hgl.out; omega) (hb4 w.heap.size (Nat.le_refl _)).size)
            | (go_at_call 88; refine (jumps_walk _ _).mono ?_; rintro en w6 ⟨rfl, rfl⟩)
            | (at_builtin; refine put_i (.tmp 54) (.tmp 60) (w.heap.size + 1) _ ts _ _ _ rfl rfl rfl O4.out rfl rfl (by have := HH.out; omega) z4 ?_; intro v7 w7 ho7 hb7 _
               have R7 := Lib.hid (R4.out.below hb7 (Nat.lt_succ_self _))
               have B7 := Lib.hid (B4.out.trans (below_low hb7 (Nat.le_succ _)))
               have A7 := Lib.hid (A4.out.lowB (fun hp a ha => Nat.lt_succ_of_lt (HO.out hp a ha)) hb7)))
          go_roundw
          case rel => exact ⟨is.set k true, ts ++ behind l k, by rw [Hb.out]; exact Lib.hid ho7, R7, S2, A7, B7⟩
          case measure =>
                rw [HM.out, noes_row R7.out]
                have h3 := own_len ho7
                simp only [List.length_append, List.length_singleton] at h3
                simp only [show ∀ a b c, lenOf (.slice a b c) = b from fun _ _ _ => rfl] at h3 ⊢
                have h1 := hcnt.out
                have h2 := HN.out
                omega
        · by_cases q5 : o = 50
          · have Hb := Lib.hid (behind_50 (hoo.trans q5))
            subst q5
            have hd : decide (jumps 50) = false := by decide
            clear ho hoo q1
            go_wp2_with (first
            | (refine put_at (.tmp 31) _ 4 w.heap.size k 4 (boolC is) [.bool true] _ _ rfl rfl rfl rfl rfl size4 (by simp [Value.oneCell']) HR.out (by rw [boolC_length]; simp; omega) ?_; intro w4 hr4 hb4 hf4
               have d0 := (World.cell?_of_block (a := ⟨b, off + k * 5, none⟩) (hf4 b hbg)).trans c0
               have d1 := (World.cell?_of_block (a := ⟨b, off + k * 5 + 1, none⟩) (hf4 b hbg)).trans c1
               have O4 : Hid (OwnI (w.heap.size + 1) w4 (.slice (some ⟨g, 0, none⟩) n cp) ts) := Lib.hid (own_same hsh.out fun g2 h2 => hf4 g2 (own_ne h2 hgb.out))
               have R4 : Hid (Row w4 w.heap.size 4 (boolC (is.set k true))) := Lib.hid (by rw [← hsetr.out, ← set_take_drop _ _ _ (by rw [boolC_length]; exact hkb)]; exact hr4)
               have B4 := Lib.hid (HB.out.trans (hb4 w.heap.size (Nat.le_refl _)))
               have A4 := Lib.hid (HA.out.far (fun hp a ha => by have := HO.out hp a ha; omega) (hb4 w.heap.size (Nat.le_refl _)).size hf4)
               have z4 : w.heap.size + 1 ≤ w4.heap.size := Nat.le_trans (by have := hgb.out; have := hgl.out; omega) (hb4 w.heap.size (Nat.le_refl _)).size)
            | (go_at_call 88; refine (jumps_walk _ _).mono ?_; rintro en w6 ⟨rfl, rfl⟩))
            go_roundw
            case rel => exact ⟨is.set k true, ts ++ behind l k, by rw [Hb.out, List.append_nil]; exact O4, R4, S2, A4, B4⟩
            case measure =>
                rw [HM.out, noes_row R4.out]
                have h3 := own_len O4.out
                simp only [show ∀ a b c, lenOf (.slice a b c) = b from fun _ _ _ => rfl] at h3 ⊢
                have h1 := hcnt.out
                have h2 := HN.out
                omega
          · have b1 : (o == 34) = false := beq_eq_false_iff_ne.2 q1
            have b5 : (o == 50) = false := beq_eq_false_iff_ne.2 q5
            have n1 : (o != 34) = true := bne_iff_ne.2 q1
            have n5 : (o != 50) = true := bne_iff_ne.2 q5
            by_cases hj : jumps o
            · have hjj : jumps (opAt l k) := by rw [hoo]; exact hj
              have ha := a_get hk (HW.out.low k hk hjj)
              rw [ha] at c1
              have Hb := Lib.hid (behind_jump (by rw [hoo]; exact q1) (by rw [hoo]; exact q5) hjj)
              have hd : decide (jumps o) = true := decide_eq_true hj
              clear ho hoo hj hjj ha
              go_wp2_with (first
            | (refine put_at (.tmp 31) _ 4 w.heap.size k 4 (boolC is) [.bool true] _ _ rfl rfl rfl rfl rfl size4 (by simp [Value.oneCell']) HR.out (by rw [boolC_length]; simp; omega) ?_; intro w4 hr4 hb4 hf4
               have d0 := (World.cell?_of_block (a := ⟨b, off + k * 5, none⟩) (hf4 b hbg)).trans c0
               have d1 := (World.cell?_of_block (a := ⟨b, off + k * 5 + 1, none⟩) (hf4 b hbg)).trans c1
               have O4 : Hid (OwnI (w.heap.size + 1) w4 (.slice (some ⟨g, 0, none⟩) n cp) ts) := Lib.hid (own_same hsh.out fun g2 h2 => hf4 g2 (own_ne h2 hgb.out))
               have R4 : Hid (Row w4 w.heap.size 4 (boolC (is.set k true))) := Lib.hid (by rw [← hsetr.out, ← set_take_drop _ _ _ (by rw [boolC_length]; exact hkb)]; exact hr4)
               have B4 := Lib.hid (HB.out.trans (hb4 w.heap.size (Nat.le_refl _)))
               have A4 := Lib.hid (HA.out.far (fun hp a ha => by have := HO.out hp a ha; omega) (hb4 w.heap.size (Nat.le_refl _)).size hf4)
               have z4 : w.heap.size + 1 ≤ w4.heap.size := Nat.le_trans (by have := hgb.out; have := hgl.out; omega) (hb4 w.heap.size (Nat.le_refl _)).size)
            | (go_at_call 88; refine (jumps_walk _ _).mono ?_; rintro en w6 ⟨rfl, rfl⟩)
            | (at_builtin; refine put_i (.tmp 43) (.tmp 46) (w.heap.size + 1) _ ts ((k + 1 : Nat) : Int) _ _ rfl rfl rfl O4.out (by simp) rfl (by have := HH.out; omega) z4 ?_; intro v5 w5 ho5 hb5 _
               have O5 := Lib.hid ho5
               have R5 := Lib.hid (R4.out.below hb5 (Nat.lt_succ_self _))
               have B5 := Lib.hid (B4.out.trans (below_low hb5 (Nat.le_succ _)))
               have A5 := Lib.hid (A4.out.lowB (fun hp a ha => Nat.lt_succ_of_lt (HO.out hp a ha)) hb5)
               have e0 := (hb5.cell (p := ⟨b, off + k * 5, none⟩) (show b < w.heap.size + 1 by omega)).trans d0
               have e1 := (hb5.cell (p := ⟨b, off + k * 5 + 1, none⟩) (show b < w.heap.size + 1 by omega)).trans d1
               have z5 : w.heap.size + 1 ≤ w5.heap.size := Nat.le_trans z4 hb5.size)
                | (at_builtin; refine put_i (.tmp 54) (.tmp 60) (w.heap.size + 1) _ (ts ++ [((k + 1 : Nat) : Int)]) _ _ _ rfl rfl rfl O5.out rfl rfl (by rw [List.length_append, List.length_singleton]; have := HH.out; omega) z5 ?_; intro v7 w7 ho7 hb7 _
                   have R7 := Lib.hid (R5.out.below hb7 (Nat.lt_succ_self _))
                   have B7 := Lib.hid (B5.out.trans (below_low hb7 (Nat.le_succ _)))
                   have A7 := Lib.hid (A5.out.lowB (fun hp a ha => Nat.lt_succ_of_lt (HO.out hp a ha)) hb7)))
              go_roundw
              case rel => exact ⟨is.set k true, ts ++ behind l k, by rw [Hb.out]; exact Lib.hid (by simpa using ho7), R7, S2, A7, B7⟩
              case measure =>
                rw [HM.out, noes_row R7.out]
                have h3 := own_len ho7
                simp only [List.length_append, List.length_singleton] at h3
                simp only [show ∀ a b c, lenOf (.slice a b c) = b from fun _ _ _ => rfl] at h3 ⊢
                have h1 := hcnt.out
                have h2 := HN.out
                omega
            · have hjj : ¬ jumps (opAt l k) := by rw [hoo]; exact hj
              have Hb := Lib.hid (behind_next (by rw [hoo]; exact q1) (by rw [hoo]; exact q5) hjj)
              have hd : decide (jumps o) = false := decide_eq_false hj
              clear ho hoo hj hjj
              go_wp2_with (first
            | (refine put_at (.tmp 31) _ 4 w.heap.size k 4 (boolC is) [.bool true] _ _ rfl rfl rfl rfl rfl size4 (by simp [Value.oneCell']) HR.out (by rw [boolC_length]; simp; omega) ?_; intro w4 hr4 hb4 hf4
               have d0 := (World.cell?_of_block (a := ⟨b, off + k * 5, none⟩) (hf4 b hbg)).trans c0
               have d1 := (World.cell?_of_block (a := ⟨b, off + k * 5 + 1, none⟩) (hf4 b hbg)).trans c1
               have O4 : Hid (OwnI (w.heap.size + 1) w4 (.slice (some ⟨g, 0, none⟩) n cp) ts) := Lib.hid (own_same hsh.out fun g2 h2 => hf4 g2 (own_ne h2 hgb.out))
               have R4 : Hid (Row w4 w.heap.size 4 (boolC (is.set k true))) := Lib.hid (by rw [← hsetr.out, ← set_take_drop _ _ _ (by rw [boolC_length]; exact hkb)]; exact hr4)
               have B4 := Lib.hid (HB.out.trans (hb4 w.heap.size (Nat.le_refl _)))
               have A4 := Lib.hid (HA.out.far (fun hp a ha => by have := HO.out hp a ha; omega) (hb4 w.heap.size (Nat.le_refl _)).size hf4)
               have z4 : w.heap.size + 1 ≤ w4.heap.size := Nat.le_trans (by have := hgb.out; have := hgl.out; omega) (hb4 w.heap.size (Nat.le_refl _)).size)
            | (go_at_call 88; refine (jumps_walk _ _).mono ?_; rintro en w6 ⟨rfl, rfl⟩)
            | (at_builtin; refine put_i (.tmp 43) (.tmp 46) (w.heap.size + 1) _ ts ((k + 1 : Nat) : Int) _ _ rfl rfl rfl O4.out (by simp) rfl (by have := HH.out; omega) z4 ?_; intro v5 w5 ho5 hb5 _
               have O5 := Lib.hid ho5
               have R5 := Lib.hid (R4.out.below hb5 (Nat.lt_succ_self _))
               have B5 := Lib.hid (B4.out.trans (below_low hb5 (Nat.le_succ _)))
               have A5 := Lib.hid (A4.out.lowB (fun hp a ha => Nat.lt_succ_of_lt (HO.out hp a ha)) hb5)
               have e0 := (hb5.cell (p := ⟨b, off + k * 5, none⟩) (show b < w.heap.size + 1 by omega)).trans d0
               have e1 := (hb5.cell (p := ⟨b, off + k * 5 + 1, none⟩) (show b < w.heap.size + 1 by omega)).trans d1
               have z5 : w.heap.size + 1 ≤ w5.heap.size := Nat.le_trans z4 hb5.size))
              go_roundw
              case rel => exact ⟨is.set k true, ts ++ behind l k, by rw [Hb.out]; exact O5, R5, S2, A5, B5⟩
              case measure =>
                rw [HM.out, noes_row R5.out]
                have h3 := own_len O5.out
                simp only [List.length_append, List.length_singleton] at h3
                simp only [show ∀ a b c, lenOf (.slice a b c) = b from fun _ _ _ => rfl] at h3 ⊢
                have h1 := hcnt.out
                have h2 := HN.out
                omega
    · obtain rfl : todo = [] := List.eq_nil_of_length_eq_zero (by omega)
      clear h0
      have e := seek_list HW.out HS.out
      subst e
      go_wp2_with fail
      go_ret
      exact ⟨rfl, HR.out, HB.out⟩
end Go.Proofs.YtmecmlpoallpcaaGreatDoor

/- Rows of instructions that a call itself made: read, written. No walk. -/
namespace Go.Proofs.YtmecmlpoallpcaaGreatDoor
set_option linter.unusedVariables false
open Go.RowKit Go.Proofs.PeepPlain

/-- Block g, with room for c, holds the instructions l first. -/
def InsRow (w : World) (g c : Nat) (l : List Ins) : Prop := ∃ tail, Row w g 50 (flatI l ++ tail) ∧ l.length ≤ c ∧ c ≤ maxLen ∧ (flatI l ++ tail).length = c * 5
theorem size50 : (Tryz.prog.info? 50).map (·.size) = some 5 := by kernel_rfl
theorem flatI_set (l : List Ins) (k : Nat) (x : Ins) (h : k < l.length) : flatI (l.set k x) = (flatI l).take (k * 5) ++ cellsI x ++ (flatI l).drop (k * 5 + 5) := by
  induction l generalizing k with
  | nil => simp at h
  | cons e l ih =>
    cases k with
    | zero =>
      simp only [List.set_cons_zero, flatI, List.flatMap_cons, Nat.zero_mul, List.take_zero, List.nil_append, Nat.zero_add]
      rw [show List.drop 5 (cellsI e ++ List.flatMap cellsI l) = List.flatMap cellsI l from rfl]
    | succ k =>
      have := ih k (by simpa using h)
      simp only [flatI, List.set_cons_succ, List.flatMap_cons] at *
      rw [this]
      have e5 : (cellsI e).length = 5 := rfl
      rw [show (k + 1) * 5 = 5 + k * 5 by omega, show 5 + k * 5 + 5 = 5 + (k * 5 + 5) by omega]
      rw [show List.take (5 + k * 5) (cellsI e ++ List.flatMap cellsI l) = cellsI e ++ List.take (k * 5) (List.flatMap cellsI l) by rw [List.take_append, List.take_of_length_le (by rw [e5]; omega), e5, Nat.add_sub_cancel_left]]
      rw [show List.drop (5 + (k * 5 + 5)) (cellsI e ++ List.flatMap cellsI l) = List.drop (k * 5 + 5) (List.flatMap cellsI l) by rw [show 5 + (k * 5 + 5) = (cellsI e).length + (k * 5 + 5) by rw [e5], List.drop_append]; simp]
      simp
section
variable {w w' : World} {g c : Nat} {l : List Ins}
theorem InsRow.lt (h : InsRow w g c l) : g < w.heap.size := by obtain ⟨t, h, _⟩ := h; exact h.lt
theorem InsRow.cap (h : InsRow w g c l) : l.length ≤ c ∧ c ≤ maxLen := by obtain ⟨t, _, h1, h2, _⟩ := h; exact ⟨h1, h2⟩
theorem InsRow.at_ (h : InsRow w g c l) {i : Nat} (hi : i < l.length) : w.cell? ⟨g, i * 5, none⟩ = some (.int .i64 l[i].op) ∧ w.cell? ⟨g, i * 5 + 1, none⟩ = some (.int .i64 l[i].a) ∧ w.cell? ⟨g, i * 5 + 2, none⟩ = some (.int .i64 l[i].b) ∧ w.cell? ⟨g, i * 5 + 3, none⟩ = some (.string l[i].text) ∧ w.cell? ⟨g, i * 5 + 4, none⟩ = some (.int .i64 l[i].pos) := by
  obtain ⟨t, h, _⟩ := h
  obtain ⟨a0, a1, a2, a3, a4⟩ := flatI_at l i hi
  have hl := flatI_length l
  refine ⟨?_, ?_, ?_, ?_, ?_⟩ <;> rw [h.cell, List.getElem?_append_left (by omega)] <;> assumption
theorem InsRow.insAt (h : InsRow w g c l) : InsAt w (some ⟨g, 0, none⟩) l := by
  obtain ⟨t, h, _⟩ := h
  exact Lies.row h fun j u hu => by
    have := (List.getElem?_eq_some_iff.1 hu).1
    rw [List.getElem?_append_left this]
    exact hu
theorem InsRow.below {B : Nat} (h : InsRow w g c l) (hb : Below B w w') (hg : g < B) : InsRow w' g c l := by
  obtain ⟨t, h, h2⟩ := h
  exact ⟨t, h.below hb hg, h2⟩
theorem InsRow.old (h : InsRow w g c l) (hb : Below w.heap.size w w') : InsRow w' g c l := h.below hb h.lt
theorem InsRow.alloc (h : InsRow w g c l) (o : Obj) : InsRow (w.alloc o) g c l := by
  obtain ⟨t, h, h2⟩ := h
  exact ⟨t, h.alloc o, h2⟩
theorem InsRow.far (h : InsRow w g c l) (hf : w'.heap[g]? = w.heap[g]?) : InsRow w' g c l := by
  obtain ⟨t, h, h2⟩ := h
  exact ⟨t, hf.trans h, h2⟩
theorem InsRow.frozen (h : InsRow w g c l) (i : Nat) : w.frozen? ⟨g, i, none⟩ = false := by obtain ⟨t, h, _⟩ := h; exact h.free i
/-- The whole row, to be written into: an instruction. -/
theorem InsRow.set_ (h : InsRow w g c l) {k : Nat} (hk : k < l.length) (x : Ins) : ∃ old, Row w g 50 old ∧ k * 5 + 5 ≤ old.length ∧ ∀ w', Row w' g 50 (old.take (k * 5) ++ cellsI x ++ old.drop (k * 5 + 5)) → InsRow w' g c (l.set k x) := by
  obtain ⟨t, h, h1, h2, h3⟩ := h
  have hl := flatI_length l
  refine ⟨_, h, by simp; omega, fun w' h' => ⟨t, ?_, by simpa using h1, h2, ?_⟩⟩
  · rw [flatI_set l k x hk]
    rw [List.take_append_of_le_length (by omega), List.drop_append_of_le_length (by omega)] at h'
    simpa using h'
  · have := flatI_length (l.set k x)
    simp only [List.length_append, List.length_set] at *
    omega
/-- What its A becomes. -/
theorem InsRow.setA (h : InsRow w g c l) {k : Nat} (hk : k < l.length) (a : Int) : ∃ old, Row w g 50 old ∧ k * 5 + 1 + 1 ≤ old.length ∧ ∀ w', Row w' g 50 (old.take (k * 5 + 1) ++ [.int .i64 a] ++ old.drop (k * 5 + 1 + 1)) → InsRow w' g c (l.set k { l[k] with a := a }) := by
  obtain ⟨old, h1, h2, h3⟩ := h.set_ hk { l[k] with a := a }
  refine ⟨old, h1, by omega, fun w' h' => h3 w' ?_⟩
  obtain ⟨a0, a1, a2, a3, a4⟩ := h.at_ hk
  rw [h1.cell] at a0 a1 a2 a3 a4
  have e : ∀ (j : Nat) (u : Value), old[j]? = some u → old.take (j + 1) = old.take j ++ [u] := fun j u hu => by
    rw [List.take_add_one, hu]; rfl
  have d : ∀ (j : Nat) (u : Value), old[j]? = some u → old.drop j = u :: old.drop (j + 1) := fun j u hu => by
    obtain ⟨hj, e⟩ := List.getElem?_eq_some_iff.1 hu
    rw [List.drop_eq_getElem_cons hj, e]
  rw [e _ _ a0, d _ _ a2, d _ _ a3, d _ _ a4] at h'
  simpa [cellsI] using h'
theorem InsRow.putA (h : InsRow w g c l) {k : Nat} (hk : k < l.length) (a : Int) : InsRow (w.setCell ⟨g, k * 5 + 1, none⟩ (.int .i64 a)) g c (l.set k { l[k] with a := a }) := by
  obtain ⟨old, h1, h2, h3⟩ := h.setA hk a
  have e : old.take (k * 5 + 1) ++ [.int .i64 a] ++ old.drop (k * 5 + 1 + 1) = old.set (k * 5 + 1) (.int .i64 a) := set_take_drop old (k * 5 + 1) (.int .i64 a) (by omega)
  exact h3 _ (by rw [e]; exact h1.set _ _)
theorem InsRow.ofOwns {B n : Nat} (h : w.ownsRow B 50 5 (.slice (some ⟨g, 0, none⟩) n c) l.length (flatI l)) : InsRow w g c l ∧ B ≤ g ∧ n = l.length := by
  rcases h.2 with ⟨h1, _⟩ | ⟨g', cap, cur, hv, hb, hg, hnc, hcm, hcs, ht⟩
  · cases h1
  · injection hv with e1 e2 e3
    subst e3
    have e4 : g = g' := by have := Option.some.inj e1; injection this
    subst e4
    refine ⟨⟨cur.toList.drop (l.length * 5), ?_, hnc, hcm, ?_⟩, hb, e2⟩
    · rw [← ht, List.take_append_drop]
      exact hg
    · rw [← ht, List.take_append_drop]
      simpa using hcs
theorem ins_get {l : List Ins} {k : Nat} (h : k < l.length) : l.getD k default = l[k] := by
  rw [List.getD_eq_getElem?_getD, List.getElem?_eq_getElem h]
  rfl
end

/-! ### Who names a jump names what that names: the steps -/
/-- The first k gone over; k itself, so far, names t. -/
def turning (l : List Ins) (k t : Nat) : List Ins := (partly l k).set k { l.getD k default with a := (t : Int) }
theorem turning_length (l : List Ins) (k t : Nat) : (turning l k t).length = l.length := by simp [turning, partly_length]
theorem turning_get {l : List Ins} {k t j : Nat} (hk : k < l.length) (hj : j < l.length) : (turning l k t).getD j default = if k = j then { l.getD k default with a := (t : Int) } else (partly l k).getD j default := by
  unfold turning
  rw [set_getD]
  by_cases h : k = j
  · rw [if_pos h, if_pos ⟨h, by rw [partly_length]; exact hj⟩]
  · rw [if_neg h, if_neg (fun h2 => h h2.1)]
theorem turning_start {l : List Ins} {k : Nat} (W : WF l) (hk : k < l.length) (hj : jumps (opAt l k)) : turning l k (aAt l k) = partly l k := by
  have h0 := W.low k hk hj
  have e : { l.getD k default with a := ((aAt l k : Nat) : Int) } = l.getD k default := ins_same h0 rfl
  unfold turning
  rw [e]
  apply List.ext_getElem?
  intro i
  rw [List.getElem?_set]
  split
  · rename_i h
    subst h
    rw [if_pos (by rw [partly_length]; exact hk)]
    have := partly_get l k k hk
    rw [if_neg (Nat.lt_irrefl _)] at this
    rw [← this, List.getD_eq_getElem?_getD, List.getElem?_eq_getElem (by rw [partly_length]; exact hk)]
    rfl
  · rfl
theorem getD_ext {l m : List Ins} (h : l.length = m.length) (hg : ∀ j, j < l.length → l.getD j default = m.getD j default) : l = m := by
  apply List.ext_getElem h
  intro i h1 h2
  have := hg i h1
  rw [ins_get h1, ins_get h2] at this
  exact this
theorem turning_end {l : List Ins} {k t : Nat} (W : WF l) (hk : k < l.length) (hj : jumps (opAt l k)) (ht : opAt l t ≠ 34) (hf : PeepPlain.follow l t = PeepPlain.follow l (aAt l k)) : turning l k t = partly l (k + 1) := by
  apply getD_ext (by rw [turning_length, partly_length])
  intro j h
  rw [turning_length] at h
  rw [turning_get hk h, partly_get l (k + 1) j h]
  by_cases e : k = j
  · subst e
    rw [if_pos rfl, if_pos (by omega)]
    unfold turned
    rw [if_pos (show jumps (l.getD k default).op from hj)]
    rw [follow_stop ht] at hf
    rw [hf]
    rfl
  · rw [if_neg e, partly_get l k j h]
    by_cases h2 : j < k
    · rw [if_pos h2, if_pos (by omega)]
    · rw [if_neg h2, if_neg (by omega)]
theorem turning_no {l : List Ins} {k : Nat} (hk : k < l.length) (hj : ¬ jumps (opAt l k)) : partly l k = partly l (k + 1) := by
  apply getD_ext (by rw [partly_length, partly_length])
  intro j h
  rw [partly_length] at h
  rw [partly_get l k j h, partly_get l (k + 1) j h]
  by_cases e : k = j
  · subst e
    rw [if_neg (by omega), if_pos (by omega)]
    unfold turned
    rw [if_neg (show ¬ jumps (l.getD k default).op from hj)]
  · by_cases h2 : j < k
    · rw [if_pos h2, if_pos (by omega)]
    · rw [if_neg h2, if_neg (by omega)]
/-- What is known on the way: k goes to t so far. -/
structure OnWay (l : List Ins) (k t : Nat) : Prop where
  lt : t < l.length
  same : PeepPlain.follow l t = PeepPlain.follow l (aAt l k)
  back : t ≤ k → pauses (opAt l t)
theorem onWay_start {l : List Ins} {k : Nat} (W : WF l) (hk : k < l.length) (hj : jumps (opAt l k)) : OnWay l k (aAt l k) := ⟨W.high k hk hj, rfl, W.back k hk hj⟩
theorem onWay_step {l : List Ins} {k t : Nat} (W : WF l) (h : OnWay l k t) (hj : opAt l t = 34) : k < t ∧ OnWay l k (aAt l t) ∧ (opAt l (aAt l t) = 34 → t < aAt l t) := by
  have hjj : jumps (opAt l t) := .inl hj
  have hkt : k < t := by
    rcases Nat.lt_or_ge k t with h1 | h1
    · exact h1
    · exact absurd hj (pauses_ne (h.back h1))
  refine ⟨hkt, ⟨W.high t h.lt hjj, ?_, fun h1 => W.back t h.lt hjj (by omega)⟩, fun h1 => ?_⟩
  · rw [← h.same]; exact (follow_step W h.lt hj).symm
  · rcases Nat.lt_or_ge t (aAt l t) with h2 | h2
    · exact h2
    · exact absurd h1 (pauses_ne (W.back t h.lt hjj h2))
/-- How far it still is. -/
def way (l : List Ins) (t : Nat) : Nat := if opAt l t = 34 then l.length - t + 1 else 0
theorem way_less {l : List Ins} {k t : Nat} (W : WF l) (h : OnWay l k t) (hj : opAt l t = 34) : way l (aAt l t) < way l t := by
  obtain ⟨_, h1, h2⟩ := onWay_step W h hj
  unfold way
  rw [if_pos hj]
  split
  · rename_i h3
    have := h2 h3
    have := h1.lt
    omega
  · omega
theorem turning_op {l : List Ins} {k t j : Nat} (hk : k < l.length) (hj : j < l.length) : opAt (turning l k t) j = opAt l j := by
  show ((turning l k t).getD j default).op = _
  rw [turning_get hk hj]
  split
  · rename_i h; subst h; rfl
  · exact partly_op l k j
theorem turning_behind {l : List Ins} {k t j : Nat} (hk : k < l.length) (hj : j < l.length) (h : k < j) : (turning l k t).getD j default = l.getD j default := by
  rw [turning_get hk hj, if_neg (by omega), partly_get l k j hj, if_neg (by omega)]
theorem turning_me {l : List Ins} {k t : Nat} (hk : k < l.length) : (turning l k t).getD k default = { l.getD k default with a := (t : Int) } := by
  rw [turning_get hk hk, if_pos rfl]
theorem turning_set {l : List Ins} {k t u : Nat} {x : Ins} (hk : k < l.length) (hx : x = (turning l k t).getD k default) : (turning l k t).set k { x with a := (u : Int) } = turning l k u := by
  subst hx
  rw [turning_me hk]
  unfold turning
  rw [List.set_set]
end Go.Proofs.YtmecmlpoallpcaaGreatDoor
