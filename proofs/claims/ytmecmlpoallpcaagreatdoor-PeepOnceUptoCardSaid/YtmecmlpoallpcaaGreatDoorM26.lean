/- Texts of this proof, put together: FoldA, OpsA. -/
import Derived.Test.YtmecmlpoallpcaaGreatDoorM12
import Derived.Test.YtmecmlpoallpcaaGreatDoorM25
import Derived.Test.YtmecmlpoallpcaaGreatDoorM09
import Derived.Deep.QuietTactic
import Derived.BigQuiet
import Derived.RegionTactic
import Derived.BigRegion
import Derived.Lib.ParseIntBTie
set_option linter.unusedSimpArgs false
/- peep.folder in memory: last (90), drop (94). -/
namespace Go.Proofs.YtmecmlpoallpcaaGreatDoor
set_option linter.unusedVariables false
open Go.RowKit Go.Proofs.PeepPlain

/-- What is kept, as it lies in memory: the last one last. -/
def keptI (ks : List Nat) : List Int := ks.reverse.map fun k => ((k : Nat) : Int)
theorem keptI_length (ks : List Nat) : (keptI ks).length = ks.length := by simp [keptI]
theorem keptI_cons (k : Nat) (ks : List Nat) : keptI (k :: ks) = keptI ks ++ [((k : Nat) : Int)] := by simp [keptI]
theorem keptI_at {ks : List Nat} {n p k : Nat} (h : ks[n]? = some k) (hp : ks.length = p + n + 1) : (keptI ks)[p]? = some ((k : Nat) : Int) := by
  unfold keptI
  rw [List.getElem?_map, List.getElem?_reverse (by omega), show ks.length - 1 - p = n by omega, h]
  rfl
/-- The folder's block gF: its code lies at gl, its marks at gm, what is left out at go, what is kept is v; these four lie below Bk, the row of what is kept from Bk on. -/
structure FoldAt (w : World) (Bk gF gl cl gm go : Nat) (v : Value) (S : FSt) : Prop where
  row : Row w gF 93 [.slice (some ⟨gl, 0, none⟩) S.l.length cl, .slice (some ⟨gm, 0, none⟩) S.l.length S.l.length, .slice (some ⟨go, 0, none⟩) S.l.length S.l.length, v]
  code : InsRow w gl cl S.l
  mark : Row w gm 4 (boolC S.mark)
  out : Row w go 4 (boolC S.out)
  kept : OwnI Bk w v (keptI S.ks)
  lenm : S.mark.length = S.l.length
  leno : S.out.length = S.l.length
  ks : ∀ k ∈ S.ks, k < S.l.length
  few : S.ks.length ≤ S.l.length
  fl : gF < Bk ∧ gl < Bk ∧ gm < Bk ∧ go < Bk ∧ Bk ≤ w.heap.size
  ne : gF ≠ gl ∧ gF ≠ gm ∧ gF ≠ go ∧ gl ≠ gm ∧ gl ≠ go ∧ gm ≠ go
section
variable {w w' : World} {Bk gF gl cl gm go : Nat} {v : Value} {S : FSt}
theorem FoldAt.below (F : FoldAt w Bk gF gl cl gm go v S) (hb : Below w.heap.size w w') : FoldAt w' Bk gF gl cl gm go v S :=
  ⟨F.row.below hb F.row.lt, F.code.below hb F.code.lt, F.mark.below hb F.mark.lt, F.out.below hb F.out.lt, F.kept.below hb (Nat.le_refl _), F.lenm, F.leno, F.ks, F.few, ⟨F.fl.1, F.fl.2.1, F.fl.2.2.1, F.fl.2.2.2.1, Nat.le_trans F.fl.2.2.2.2 hb.size⟩, F.ne⟩

theorem FoldAt.drew (F : FoldAt w Bk gF gl cl gm go v S) : FoldAt w.drew Bk gF gl cl gm go v S := F.below (below_drew (Below.refl _ _))
theorem FoldAt.drewN (F : FoldAt w Bk gF gl cl gm go v S) (n : Nat) : FoldAt (w.drewN n) Bk gF gl cl gm go v S := F.below (below_drewN (Below.refl _ _) n)
end
/-- What last answers. -/
def lastV (S : FSt) (n : Nat) (plain : Bool) : Value :=
  match S.ks[n]? with
  | none => .tuple #[.int .i64 0, .bool false]
  | some k => if (plain && S.mark.getD k false) = true then .tuple #[.int .i64 0, .bool false] else .tuple #[.int .i64 (k : Nat), .bool true]
set_option maxHeartbeats 2000000 in
theorem last_walk (w : World) (Bk gF gl cl gm go : Nat) (v : Value) (S : FSt) (F : FoldAt w Bk gF gl cl gm go v S) (hl : S.l.length ≤ 100000) (n : Nat) (hn : n ≤ 2) (plain : Bool) :
    Calls Tryz.prog 90 #[.pointer (some ⟨gF, 0, none⟩), .int .i64 n, .bool plain] w fun e w' => e = .returned (lastV S n plain) ∧ ∃ q, w' = w.drewN q := by
  have hf := F.few
  obtain ⟨A, c, hv⟩ := F.kept.shape
  subst hv
  have c1 := F.row.cell 1
  have c3 := F.row.cell 3
  rw [keptI_length] at c3
  unfold lastV
  cases hk : S.ks[n]? with
  | none =>
    have hL : S.ks.length ≤ n := List.getElem?_eq_none_iff.1 hk
    obtain ⟨L, hLe⟩ : ∃ L, S.ks.length = L := ⟨_, rfl⟩
    rw [hLe] at c3 hL
    have hneg : (L : Int) - 1 - (n : Int) < 0 := by omega
    clear hk hf hLe F
    go_enter Tryz.func90, Tryz.ntmps90
    go_wp2_with fail
    go_quiet (fail)
    go_wp2
    go_ret2
    exact ⟨rfl, nq, rfl⟩
  | some k =>
    obtain ⟨hn1, hke⟩ := List.getElem?_eq_some_iff.1 hk
    obtain ⟨p, hp⟩ : ∃ p, S.ks.length = p + n + 1 := ⟨S.ks.length - n - 1, by omega⟩
    have hkL : k < S.l.length := F.ks k (hke ▸ List.getElem_mem hn1)
    have hkm : k < S.mark.length := by rw [F.lenm]; exact hkL
    have hlen : p < (keptI S.ks).length := by rw [keptI_length]; omega
    obtain ⟨g, rfl, hgn, hgc, hgm⟩ := F.kept.addr (by omega)
    have hcell := F.kept.cell p hlen
    have hkp := keptI_at hk hp
    rw [List.getElem?_eq_getElem hlen] at hkp
    rw [Option.some.inj hkp] at hcell
    have hbit := bool_at F.mark hkm
    rw [hp] at c3
    obtain ⟨L, hL⟩ : ∃ L, p + n + 1 = L := ⟨_, rfl⟩
    rw [hL] at c3
    have hat : (L : Int) - 1 - (n : Int) = (p : Int) := by omega
    have hi : (0 : Int) ≤ (p : Int) ∧ (p : Int) < (L : Int) := by omega
    have hi2 : (0 : Int) ≤ (k : Int) ∧ (k : Int) < (S.l.length : Int) := by omega
    have hnn : ¬ ((p : Int) < 0) := by omega
    have hd : decide ((p : Int) < 0) = false := decide_eq_false hnn
    have hLb : L ≤ 100000 := by omega
    dsimp only
    generalize S.mark.getD k false = b at hbit ⊢
    generalize S.l.length = N at *
    clear hk hf F hn1 hke hlen hgn hkp hkm hL hgc hgm
    cases plain
    · rw [Bool.false_and]
      go_enter Tryz.func90, Tryz.ntmps90
      go_wp2_with fail
      go_quiet (fail)
      go_wp2
      go_ret2
      exact ⟨rfl, nq, rfl⟩
    · rw [Bool.true_and]
      cases b
      · go_enter Tryz.func90, Tryz.ntmps90
        go_wp2_with fail
        go_quiet (fail)
        go_wp2
        go_ret2
        exact ⟨rfl, nq, rfl⟩
      · go_enter Tryz.func90, Tryz.ntmps90
        go_wp2_with fail
        go_quiet (fail)
        go_wp2
        go_ret2
        exact ⟨rfl, nq, rfl⟩
/-- The last one is left out. -/
def dropS (S : FSt) : FSt := match S.ks with
  | [] => S
  | k :: r => ⟨S.l, S.mark, S.out.set k true, r⟩
def dropN : Nat → FSt → FSt
  | 0, S => S
  | n + 1, S => dropN n (dropS S)
theorem dropN_succ (n : Nat) (S : FSt) : dropN (n + 1) S = dropS (dropN n S) := by
  induction n generalizing S with
  | zero => rfl
  | succ n ih => exact ih (dropS S)
theorem dropS_ks (S : FSt) : (dropS S).ks.length = S.ks.length - 1 := by
  unfold dropS
  split
  · rename_i h; rw [h]; rfl
  · rename_i h; rw [h]; simp
theorem dropN_ks (n : Nat) (S : FSt) : (dropN n S).ks.length = S.ks.length - n := by
  induction n generalizing S with
  | zero => rfl
  | succ n ih => show (dropN n (dropS S)).ks.length = _; rw [ih, dropS_ks]; omega
theorem dropS_l (S : FSt) : (dropS S).l = S.l := by unfold dropS; split <;> rfl
theorem dropN_l (n : Nat) (S : FSt) : (dropN n S).l = S.l := by
  induction n generalizing S with
  | zero => rfl
  | succ n ih => show (dropN n (dropS S)).l = _; rw [ih, dropS_l]
/-- Memory behind one drop. -/
theorem FoldAt.dropped {w : World} {Bk gF gl cl gm go g c : Nat} {S : FSt} {k n : Nat} {r : List Nat} (hk : S.ks = k :: r) (F : FoldAt w Bk gF gl cl gm go (.slice (some ⟨g, 0, none⟩) n c) S) :
    FoldAt ((w.setCell ⟨go, k, none⟩ (.bool true)).setCell ⟨gF, 3, none⟩ (.slice (some ⟨g, 0, none⟩) r.length c)) Bk gF gl cl gm go (.slice (some ⟨g, 0, none⟩) r.length c) (dropS S) := by
  have e : dropS S = ⟨S.l, S.mark, S.out.set k true, r⟩ := by unfold dropS; rw [hk]
  obtain ⟨n1, n2, n3, n4, n5, n6⟩ := F.ne
  obtain ⟨f1, f2, f3, f4, f5⟩ := F.fl
  have hg := (F.kept.lt (g := g) rfl).1
  have hkept := F.kept
  rw [hk, keptI_cons] at hkept
  have hfar : ∀ b, b ≠ gF → b ≠ go → ((w.setCell ⟨go, k, none⟩ (.bool true)).setCell ⟨gF, 3, none⟩ (.slice (some ⟨g, 0, none⟩) r.length c)).heap[b]? = w.heap[b]? := fun b h1 h2 =>
    (heap_setCell_other _ _ _ _ (by exact h1)).trans (heap_setCell_other _ _ _ _ (by exact h2))
  rw [e]
  refine ⟨?_, F.code.far (hfar gl (Ne.symm n1) n5), ?_, ?_, ?_, F.lenm, by simpa using F.leno, fun j hj => F.ks j (by rw [hk]; exact List.mem_cons_of_mem _ hj), by have := F.few; rw [hk] at this; simp at this ⊢; omega, ⟨f1, f2, f3, f4, ?_⟩, F.ne⟩
  · exact (F.row.setFar (p := ⟨go, k, none⟩) (by exact n3) _).set 3 _
  · exact (hfar gm (Ne.symm n2) n6).trans F.mark
  · rw [boolC_set]
    exact (F.out.set k _).setFar (p := ⟨gF, 3, none⟩) (by exact Ne.symm n3) _
  · have hs := hkept.shrink
    rw [keptI_length] at hs
    exact own_same hs fun b hb => hfar b (by simp only [Value.ownBlock, Option.some.injEq] at hb; omega) (by simp only [Value.ownBlock, Option.some.injEq] at hb; omega)
  · have : ((w.setCell ⟨go, k, none⟩ (.bool true)).setCell ⟨gF, 3, none⟩ (.slice (some ⟨g, 0, none⟩) r.length c)).heap.size = w.heap.size := by simp [World.setCell]
    omega
set_option maxHeartbeats 4000000 in
theorem drop_walk (w : World) (Bk B0 gF gl cl gm go : Nat) (v : Value) (S : FSt) (F : FoldAt w Bk gF gl cl gm go v S) (hB : B0 ≤ gF ∧ B0 ≤ go) (hl : S.l.length ≤ 100000) (n : Nat) (hn : n ≤ S.ks.length) :
    Calls Tryz.prog 94 #[.pointer (some ⟨gF, 0, none⟩), .int .i64 n] w fun e w' => e = .returned (.tuple #[]) ∧ (∃ v', FoldAt w' Bk gF gl cl gm go v' (dropN n S)) ∧ Below B0 w w' := by
  have hfew := F.few
  have HF := Lib.hid F
  have hn2 : n ≤ 100000 := by omega
  clear F
  go_enter Tryz.func94, Tryz.ntmps94
  go_wp2_with fail
  go_loopw [1] (fun z wr => ∃ j : Nat, z = .int .i64 ((n : Int) - j) ∧ j ≤ n ∧ Hid (∃ v', FoldAt wr Bk gF gl cl gm go v' (dropN j S)) ∧ Hid (Below B0 w wr)) (fun z _ => (intOf z).toNat)
  case atStart => exact ⟨0, by simp, Nat.zero_le _, Lib.hid ⟨v, HF.out⟩, Lib.hid (Below.refl _ _)⟩
  case round =>
    rename World => w2
    obtain ⟨j, rfl, hj, HF2, HB⟩ := hrel
    obtain ⟨v2, F2⟩ := HF2.out
    by_cases hlt : j < n
    · have hks := dropN_ks j S
      have hlS := dropN_l j S
      obtain ⟨k, r, hkr⟩ : ∃ k r, (dropN j S).ks = k :: r := by
        cases e : (dropN j S).ks with
        | nil => rw [e] at hks; simp at hks; omega
        | cons k r => exact ⟨k, r, rfl⟩
      have hkl : k < S.l.length := by rw [← hlS]; exact F2.ks k (by rw [hkr]; simp)
      obtain ⟨A, c, rfl⟩ := F2.kept.shape
      have hlen : (keptI (dropN j S).ks).length = r.length + 1 := by rw [keptI_length, hkr]; simp
      rw [hlen] at F2
      obtain ⟨g, rfl, _, hgc, hgm⟩ := F2.kept.addr (by omega)
      have hcell := F2.kept.cell r.length (by omega)
      have hkp : (keptI (dropN j S).ks)[r.length]? = some ((k : Nat) : Int) := keptI_at (n := 0) (by rw [hkr]; rfl) (by rw [hkr]; rfl)
      rw [List.getElem?_eq_getElem (by omega)] at hkp
      rw [Option.some.inj hkp] at hcell
      have c2 := F2.row.cell 2
      have c3 := F2.row.cell 3
      have ff := F2.row.free 3
      have fo := F2.out.free k
      have co := bool_at F2.out (k := k) (by rw [F2.leno, hlS]; exact hkl)
      have hne := F2.ne.2.2.1
      rw [hlS] at c2
      obtain ⟨R, hR⟩ : ∃ R, r.length = R := ⟨_, rfl⟩
      have HD := Lib.hid (F2.dropped hkr)
      rw [hR] at c3 hcell HD hgc
      have hRl : R ≤ 100000 := by have := F2.few; rw [hkr, hlS] at this; simp at this; omega
      have h1 : (0 : Int) ≤ (R : Int) ∧ (R : Int) < ((R + 1 : Nat) : Int) := by omega
      have h2 : (0 : Int) ≤ (k : Int) ∧ (k : Int) < (S.l.length : Int) := by omega
      have h3 : (0 : Int) < (n : Int) - (j : Int) := by omega
      have HX := Lib.hid (dropN_succ j S)
      have hcx : c ≤ maxLen := hgm
      clear F2 HF2 hks hlS hkr hlen hkp hR
      go_wp2_with fail
      go_region
      all_goals go_wp2_with fail
      all_goals go_region
      all_goals go_wp2_with fail
      all_goals go_roundw
      case rel => exact ⟨j + 1, by rw [show (n : Int) - j - 1 = (n : Int) - ((j + 1 : Nat) : Int) by omega], by omega, Lib.hid (by rw [HX.out]; exact ⟨_, HD.out.drew.drew⟩), Lib.hid (below_drew (below_drew ((HB.out.setCell hB.2 _).setCell hB.1 _)))⟩
      case measure => simp [intOf]; omega
    · obtain rfl : j = n := by omega
      go_wp2_with fail
      go_end0
      exact ⟨rfl, HF2.out, HB.out⟩
end Go.Proofs.YtmecmlpoallpcaaGreatDoor

/- peep's constants and operations on them, plain; what an int's digits spell. No walk. -/
namespace Go.Proofs.YtmecmlpoallpcaaGreatDoor
set_option linter.unusedVariables false
open Go.RowKit Go.Proofs.PeepPlain

theorem parse_snoc (c : UInt8) : ∀ (l : List UInt8) (acc a : Nat), Lib.parseUint10 acc l = .ok a → Lib.parseUint10 acc (l ++ [c]) = Lib.parseUint10 a [c]
  | [], acc, a, h => by
    simp only [Lib.parseUint10] at h
    injection h with h
    subst h
    rfl
  | d :: l, acc, a, h => by
    rw [List.cons_append]
    unfold Lib.parseUint10 at h ⊢
    split at h
    · rename_i h1
      rw [if_pos h1]
      split at h
      · cases h
      · rename_i h2
        rw [if_neg h2]
        split at h
        · cases h
        · rename_i h3
          rw [if_neg h3]
          exact parse_snoc c l _ _ h
    · cases h
theorem parse_dec : ∀ (u : Nat), u < 18446744073709551616 → Lib.parseUint10 0 (Lib.decDigits u) = .ok u := by
  intro u
  induction u using Nat.strongRecOn with
  | _ u ih =>
    intro hu
    by_cases h : u < 10
    · have e : (UInt8.ofNat (48 + u)).toNat = 48 + u := by rw [UInt8.toNat_ofNat']; omega
      rw [Lib.decDigits_one h]
      unfold Lib.parseUint10
      rw [e, if_pos (by omega), if_neg (by omega), if_neg (by omega)]
      unfold Lib.parseUint10
      congr 1
      omega
    · have e : (UInt8.ofNat (48 + u % 10)).toNat = 48 + u % 10 := by rw [UInt8.toNat_ofNat']; omega
      rw [Lib.decDigits, dif_neg h, parse_snoc _ _ _ _ (ih (u / 10) (by omega) (by omega))]
      unfold Lib.parseUint10
      rw [e, if_pos (by omega), if_neg (by omega), if_neg (by omega)]
      unfold Lib.parseUint10
      congr 1
      omega
theorem dec_head : ∀ (u : Nat), ∃ c r, Lib.decDigits u = c :: r ∧ 48 ≤ c.toNat := by
  intro u
  induction u using Nat.strongRecOn with
  | _ u ih =>
    by_cases h : u < 10
    · exact ⟨_, [], Lib.decDigits_one h, by rw [UInt8.toNat_ofNat']; omega⟩
    · obtain ⟨c, r, e, hc⟩ := ih (u / 10) (by omega)
      exact ⟨c, r ++ [UInt8.ofNat (48 + u % 10)], by rw [Lib.decDigits, dif_neg h, e]; rfl, hc⟩
theorem mag_dec (u : Nat) (hu : u < 18446744073709551616) : Lib.parseMag (Lib.decDigits u) = .ok u := by
  obtain ⟨c, r, e, _⟩ := dec_head u
  unfold Lib.parseMag
  rw [if_neg (by rw [e]; simp), parse_dec u hu]
theorem atoi_itoa (n : Int) (h0 : -9223372036854775808 ≤ n) (h1 : n ≤ 9223372036854775807) : Lib.atoiAll (Lib.itoa n) = .ok n := by
  by_cases hn : n < 0
  · have e : Lib.itoa n = 45 :: Lib.decDigits n.natAbs := by unfold Lib.itoa; rw [if_pos hn]
    rw [e]
    have h45 : (45 : UInt8).toNat = 45 := rfl
    unfold Lib.atoiAll
    dsimp only
    rw [h45, if_pos (.inr rfl), mag_dec _ (by omega)]
    dsimp only
    rw [if_neg (by simp), if_neg (by omega), if_pos rfl]
    congr 1
    omega
  · have e : Lib.itoa n = Lib.decDigits n.toNat := by unfold Lib.itoa; rw [if_neg hn]
    obtain ⟨c, r, e2, hc⟩ := dec_head n.toNat
    have hm := mag_dec n.toNat (by omega)
    rw [e2] at hm
    rw [e, e2]
    unfold Lib.atoiAll
    dsimp only
    rw [if_neg (by omega), hm]
    dsimp only
    rw [if_neg (by omega), if_neg (by omega), if_neg (by omega)]
    congr 1
    omega
theorem atoi_range {l : List UInt8} {n : Int} (h : Lib.atoiAll l = .ok n) : -9223372036854775808 ≤ n ∧ n ≤ 9223372036854775807 := by
  unfold Lib.atoiAll at h
  split at h
  · cases h
  · dsimp only at h
    split at h
    · cases h
    · cases h
    · split at h
      · cases h
      · split at h
        · cases h
        · injection h with h
          split at h <;> omega
theorem digits_are {s : ByteArray} {n : Int} (h : digitsOf s = some n) : Lib.atoiAll s.data.toList = .ok n ∧ Lib.itoa n = s.data.toList ∧ -9223372036854775808 ≤ n ∧ n ≤ 9223372036854775807 := by
  unfold digitsOf at h
  split at h
  · rename_i m hm
    split at h
    · rename_i e
      injection h with h
      subst h
      rw [Lib.parseIntB_64] at hm
      exact ⟨hm, e, (atoi_range hm).1, (atoi_range hm).2⟩
    · cases h
  · cases h
theorem digits_itoa {n : Int} (h0 : -9223372036854775808 ≤ n) (h1 : n ≤ 9223372036854775807) : digitsOf ⟨(Lib.itoa n).toArray⟩ = some n := by
  unfold digitsOf
  have e : (⟨(Lib.itoa n).toArray⟩ : ByteArray).data.toList = Lib.itoa n := by simp
  rw [e, Lib.parseIntB_64, atoi_itoa n h0 h1]
  dsimp only
  rw [if_pos rfl]

/-- A constant: an int, a flag. -/
inductive Cst where
  | int (n : Int)
  | flag (n : Int)
def cstOf (i : Ins) : Option Cst := if i.op = 3 then (digitsOf i.text).map .int else if i.op = 6 then some (.flag i.a) else none
def layOf : Cst → Int → Ins
  | .int n, pos => ⟨3, 0, 0, ⟨(Lib.itoa n).toArray⟩, pos⟩
  | .flag n, pos => ⟨6, n, 0, ⟨#[]⟩, pos⟩
def bitI (b : Bool) : Int := if b then 1 else 0
def unOf (op : ByteArray) : Cst → Option Cst
  | .int n =>
    if op.toList = [43, 43] then some (.int (wrap64 (n + 1)))
    else if op.toList = [45, 45] then some (.int (wrap64 (n - 1)))
    else if op.toList = [45] then some (.int (wrap64 (-n)))
    else if op.toList = [94] then some (.int (bits BinOp.xor .i64 (-1) n))
    else none
  | .flag n =>
    if op.toList = [43, 43] then none
    else if op.toList = [45, 45] then none
    else if op.toList = [33] then some (.flag (if n = 0 then 1 else 0))
    else none
def eqOf : Cst → Cst → Bool
  | .int n, .int m => n == m
  | .flag n, .flag m => n == m
  | _, _ => false
def intsOf (op : ByteArray) (n m : Int) : Option Cst :=
  if op.toList = [43] then some (.int (wrap64 (n + m)))
  else if op.toList = [45] then some (.int (wrap64 (n - m)))
  else if op.toList = [42] then some (.int (wrap64 (n * m)))
  else if op.toList = [47] then (if m = 0 then none else some (.int (if m = -1 then wrap64 (-n) else wrap64 (n.tdiv m))))
  else if op.toList = [37] then (if m = 0 then none else some (.int (if m = -1 then wrap64 (n - wrap64 (-wrap64 (-n))) else wrap64 (n - wrap64 (wrap64 (n.tdiv m) * m)))))
  else if op.toList = [38] then some (.int (bits BinOp.and .i64 n m))
  else if op.toList = [124] then some (.int (bits BinOp.or .i64 n m))
  else if op.toList = [94] then some (.int (bits BinOp.xor .i64 n m))
  else if op.toList = [60, 60] then (if m < 0 then none else some (.int (wrap64 (n * 2 ^ (min m 64).toNat))))
  else if op.toList = [62, 62] then (if m < 0 then none else some (.int (n / 2 ^ (min m 63).toNat)))
  else if op.toList = [60, 61] then some (.flag (bitI (decide (n ≤ m))))
  else if op.toList = [60] then some (.flag (bitI (decide (n < m))))
  else if op.toList = [62, 61] then some (.flag (bitI (decide (m ≤ n))))
  else if op.toList = [62] then some (.flag (bitI (decide (m < n))))
  else none
def biOf (op : ByteArray) (b a : Cst) : Option Cst :=
  if op.toList = [61, 61] then some (.flag (bitI (eqOf b a)))
  else if op.toList = [33, 61] then some (.flag (bitI (!eqOf b a)))
  else match b, a with
    | .int n, .int m => intsOf op n m
    | _, _ => none
/-- The program's own operations. -/
def O0 : Ops Cst := ⟨cstOf, unOf, biOf, layOf⟩
theorem o0_fair : O0.Fair where
  cst := fun i c h => by
    have h : cstOf i = some c := h
    unfold cstOf at h
    split at h
    · exact .inl (by assumption)
    · split at h
      · exact .inr (by assumption)
      · cases h
  lay := fun c pos => by cases c <;> first | exact .inl rfl | exact .inr rfl
/-- A constant that may be. -/
def CstOk : Cst → Prop
  | .int n => -9223372036854775808 ≤ n ∧ n ≤ 9223372036854775807
  | .flag n => n = 0 ∨ n = 1
theorem bit_ok (b : Bool) : CstOk (.flag (bitI b)) := by cases b <;> simp [CstOk, bitI]
theorem wrap_ok (n : Int) : CstOk (.int (wrap64 n)) := by simp only [CstOk, wrap64]; omega
end Go.Proofs.YtmecmlpoallpcaaGreatDoor
