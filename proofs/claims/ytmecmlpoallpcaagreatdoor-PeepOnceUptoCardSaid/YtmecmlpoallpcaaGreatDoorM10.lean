/- Texts of this proof, put together: Hex, Float. -/
import Derived.Test.YtmecmlpoallpcaaGreatDoorM09
import Derived.Handy
set_option linter.unusedSimpArgs false
/- strconv.ParseUint at base 16. -/
namespace Go.Proofs.YtmecmlpoallpcaaGreatDoor
set_option linter.unusedVariables false
open Go.RowKit Go.Proofs.PeepPlain

/-- A byte as a digit of base 16. -/
def hexD (c : UInt8) : Option Nat := if 48 ≤ c.toNat ∧ c.toNat ≤ 57 then some (c.toNat - 48) else if 97 ≤ c.toNat ∧ c.toNat ≤ 102 then some (c.toNat - 87) else if 65 ≤ c.toNat ∧ c.toNat ≤ 70 then some (c.toNat - 55) else none
def hexN : Nat → List UInt8 → Option Nat
  | n, [] => some n
  | n, c :: r => match hexD c with
    | some d => hexN (16 * n + d) r
    | none => none
theorem hexN_append : ∀ (l m : List UInt8) (n : Nat), hexN n (l ++ m) = (hexN n l).bind fun k => hexN k m
  | [], m, n => rfl
  | c :: l, m, n => by
    simp only [List.cons_append, hexN]
    cases hexD c with
    | none => rfl
    | some d => exact hexN_append l m _
theorem hexD_lt {c : UInt8} {d : Nat} (h : hexD c = some d) : d < 16 := by
  unfold hexD at h
  split at h
  · injection h with h; omega
  · split at h
    · injection h with h; omega
    · split at h
      · injection h with h; omega
      · cases h
theorem hexN_lt : ∀ (l : List UInt8) (n m : Nat), hexN n l = some m → m < 16 ^ l.length * (n + 1)
  | [], n, m, h => by injection h with h; simp; omega
  | c :: l, n, m, h => by
    simp only [hexN] at h
    cases hd : hexD c with
    | none => rw [hd] at h; cases h
    | some d =>
      rw [hd] at h
      have h1 := hexN_lt l _ m h
      have h2 := hexD_lt hd
      rw [List.length_cons, Nat.pow_succ, Nat.mul_assoc]
      refine Nat.lt_of_lt_of_le h1 (Nat.mul_le_mul_left _ ?_)
      omega
/-- What lower makes of a byte. -/
theorem lower_at : ∀ c : Fin 256, (48 ≤ c.val ∧ c.val ≤ 57) ∨ ((97 ≤ bits .or .u8 c.val 32 ∧ bits .or .u8 c.val 32 ≤ 122) ∧ (hexD (UInt8.ofNat c.val) = some (bits .or .u8 c.val 32 - 97 + 10).toNat ∧ bits .or .u8 c.val 32 - 97 + 10 < 16 ∨ hexD (UInt8.ofNat c.val) = none ∧ 16 ≤ bits .or .u8 c.val 32 - 97 + 10)) ∨ (¬ (97 ≤ bits .or .u8 c.val 32 ∧ bits .or .u8 c.val 32 ≤ 122) ∧ hexD (UInt8.ofNat c.val) = none ∧ 0 ≤ bits .or .u8 c.val 32 ∧ bits .or .u8 c.val 32 ≤ 255) := by decide +kernel
theorem lower_of (c : Int) (h0 : 0 ≤ c) (h1 : c ≤ 255) (b : UInt8) (hb : c = (b.toNat : Int)) : ∃ m : Int, bits .or .u8 c 32 = m ∧ 0 ≤ m ∧ m ≤ 255 ∧ ((48 ≤ c ∧ c ≤ 57) ∨ ((97 ≤ m ∧ m ≤ 122) ∧ (hexD b = some (m - 97 + 10).toNat ∧ m - 97 + 10 < 16 ∨ hexD b = none ∧ 16 ≤ m - 97 + 10)) ∨ (¬ (97 ≤ m ∧ m ≤ 122) ∧ hexD b = none)) := by
  have hlt : b.toNat < 256 := b.toNat_lt
  have e : UInt8.ofNat b.toNat = b := by simp
  have hr : ∀ k : Fin 256, 0 ≤ bits .or .u8 (k.val : Int) 32 ∧ bits .or .u8 (k.val : Int) 32 ≤ 255 := by decide +kernel
  have h := lower_at ⟨b.toNat, hlt⟩
  have hr := hr ⟨b.toNat, hlt⟩
  simp only [e] at h hr
  rw [hb]
  refine ⟨_, rfl, hr.1, hr.2, ?_⟩
  rcases h with h | h | h
  · exact .inl (by omega)
  · exact .inr (.inl h)
  · exact .inr (.inr ⟨h.1, h.2.1⟩)
theorem hex_digit {b : UInt8} (h : 48 ≤ b.toNat ∧ b.toNat ≤ 57) : hexD b = some (b.toNat - 48) := by unfold hexD; rw [if_pos h]
theorem hexN_take {l : List UInt8} {k : Nat} (hk : k < l.length) {n : Nat} (h : hexN 0 (l.take k) = some n) : hexN 0 (l.take (k + 1)) = (hexD l[k]).map fun d => 16 * n + d := by
  rw [List.take_add_one, List.getElem?_eq_getElem hk, hexN_append, h]
  simp only [Option.bind_some, Option.toList_some, hexN]
  cases hexD l[k] <;> rfl
theorem hexN_bad {l : List UInt8} {k : Nat} (hk : k < l.length) (h : hexD l[k] = none) : hexN 0 l = none := by
  have e : l = l.take k ++ (l[k] :: l.drop (k + 1)) := by rw [← List.drop_eq_getElem_cons hk, List.take_append_drop]
  rw [e, hexN_append]
  cases hexN 0 (l.take k) with
  | none => rfl
  | some n =>
    simp only [Option.bind_some, hexN, h]
/-- The post of ParseUint at base 16. -/
def HexPost (s : ByteArray) (w : World) (e : Ending) (w' : World) : Prop := (∃ (n : Nat) (v : Value), e = .returned (.tuple #[.int .u64 n, v]) ∧ n < 18446744073709551616 ∧ ((v = .nilIface ∧ s.size ≠ 0 ∧ hexN 0 s.data.toList = some n) ∨ (v = .iface 235 (.int .i64 2) ∧ (s.size = 0 ∨ hexN 0 s.data.toList = none)) ∨ (v = .iface 235 (.int .i64 1) ∧ s.size ≠ 16))) ∧ Below w.heap.size w w'
theorem hex_mk {s : ByteArray} {w w' : World} (n : Nat) (v : Value) (hn : n < 18446744073709551616) (h : (v = .nilIface ∧ s.size ≠ 0 ∧ hexN 0 s.data.toList = some n) ∨ (v = .iface 235 (.int .i64 2) ∧ (s.size = 0 ∨ hexN 0 s.data.toList = none)) ∨ (v = .iface 235 (.int .i64 1) ∧ s.size ≠ 16)) (hb : Below w.heap.size w w') : HexPost s w (.returned (.tuple #[.int .u64 n, v])) w' := ⟨⟨n, v, rfl, hn, h⟩, hb⟩
theorem pow_small {k : Nat} (h : k ≤ 15) : 16 ^ k ≤ 1152921504606846976 := by
  have := Nat.pow_le_pow_right (show 0 < 16 by omega) h
  simpa using this
set_option maxRecDepth 20000 in
set_option maxHeartbeats 8000000 in
theorem hex_walk (s : ByteArray) (w : World) (hs : s.size ≤ 2000000) :
    Calls Tryz.prog 170 #[.string s, .int .i64 16, .int .i64 64] w (HexPost s w) := by
  by_cases hz : s.size = 0
  · obtain rfl : s = ⟨#[]⟩ := by
      cases s with
      | mk d =>
        have : d = #[] := Array.eq_empty_of_size_eq_zero hz
        rw [this]
    go_enter Tryz.func170, Tryz.ntmps170
    go_wp2_with fail
    go_ret2
    exact hex_mk 0 _ (by omega) (.inr (.inl ⟨rfl, .inl rfl⟩)) (Below.refl _ _)
  · have hne := empty_toList hz
    have hne2 : (s.toList == []) = false := beq_eq_false_iff_ne.2 hne
    have HZ := Lib.hid hz
    have HS := Lib.hid hs
    have hmv : IntKind.u64.wrap (IntKind.u64.wrap 18446744073709551616 - 1) = 18446744073709551615 := by decide
    obtain ⟨MV, hMV⟩ : ∃ MV : Int, MV = 18446744073709551615 := ⟨_, rfl⟩
    rw [← hMV] at hmv
    have HMV := Lib.hid hMV
    have hcv := Lib.run_convert_string_bytes (P := Tryz.prog) w 9 113 5 s Tryz.underlying9 Tryz.underlying113 Tryz.underlying5
    have hlen : s.data.toList.length = s.size := by simp
    have HLEN := Lib.hid hlen
    generalize hcap : grownCap w s.size 0 5 = cap at hcv
    have HB := Lib.hid (Lib.bytesWorld_below w 5 s)
    have HCL := Lib.hid (Lib.bytesWorld_cell w 5 s)
    clear hz hs hMV hcap hlen
    generalize Lib.bytesWorld w 5 s = W at hcv HB HCL
    go_enter Tryz.func170, Tryz.ntmps170
    go_wp2_with fail
    generalize hCT : (1152921504606846976 : Int) = CT
    have HCT := Lib.hid hCT
    clear hCT
    go_loopw [6, 7, 12, 13, 15, 16, 17, 101] (fun z6 z7 z12 nv z15 z16 z17 kv wr => ∃ k n : Nat, kv = .int .i64 k ∧ k ≤ s.size ∧ nv = .int .u64 n ∧ Hid (hexN 0 (s.data.toList.take k) = some n) ∧ Hid (n < 18446744073709551616) ∧ z12 = .bool false ∧ z6 = .int .u64 0 ∧ z7 = .nilIface ∧ wr = W) (fun _ _ _ _ _ _ _ kv _ => s.size - (intOf kv).toNat)
    case atStart => exact ⟨0, 0, rfl, Nat.zero_le _, rfl, Lib.hid rfl, Lib.hid (by omega), rfl, rfl, rfl, rfl⟩
    case round =>
      clear hcv
      obtain ⟨k, n, rfl, hkN, rfl, HN, HNB, rfl, rfl, rfl, rfl⟩ := hrel
      by_cases hk : k < s.size
      · have hki : (0 : Int) ≤ (k : Int) ∧ (k : Int) < (s.size : Int) := by omega
        have hkl : k < s.data.toList.length := by rw [HLEN.out]; exact hk
        have hc := HCL.out k hk
        have hge : s.data.toList.getD k 0 = s.data.toList[k] := by rw [List.getD_eq_getElem?_getD, List.getElem?_eq_getElem hkl]; rfl
        rw [hge] at hc
        obtain ⟨b, hb⟩ : ∃ b, b = s.data.toList[k]'hkl := ⟨_, rfl⟩
        rw [← hb] at hc
        obtain ⟨c, hcc⟩ : ∃ c : Int, c = (b.toNat : Int) := ⟨_, rfl⟩
        rw [← hcc] at hc
        have hlt : b.toNat < 256 := b.toNat_lt
        have hc0 : (0 : Int) ≤ c ∧ c ≤ 255 := by omega
        obtain ⟨m, hm, hm0, hm1, hcls⟩ := lower_of c hc0.1 hc0.2 b hcc
        have HM := Lib.hid hm
        have HBB := Lib.hid hb
        have hkb : (k : Int) ≤ 2000000 := by have := HS.out; omega
        by_cases hD : 48 ≤ c ∧ c ≤ 57
        · obtain ⟨D, hDD⟩ : ∃ D : Nat, c - 48 = (D : Int) := ⟨(c - 48).toNat, by omega⟩
          have hDb : D ≤ 9 := by omega
          have hd1 : ¬ (16 : Int) ≤ (D : Int) := by omega
          have i1 : (48 : Int) ≤ c := hD.1
          have i2 : c ≤ 57 := hD.2
          have HDG : Hid (hexD (s.data.toList[k]'hkl) = some D) := Lib.hid (by rw [← HBB.out, hex_digit (by omega)]; congr 1; omega)
          clear hcls hD hm hb hcc hge
          by_cases hcut : (n : Int) < CT
          · have hcut2 : ¬ CT ≤ (n : Int) := by omega
            have hn60 : n < 1152921504606846976 := by have := HCT.out; omega
            obtain ⟨A, hA⟩ : ∃ A : Nat, (n : Int) * 16 = (A : Int) := ⟨n * 16, by omega⟩
            have hAb : A ≤ 18446744073709551600 := by omega
            obtain ⟨T, hT⟩ : ∃ T : Nat, (A : Int) + (D : Int) = (T : Int) := ⟨A + D, by omega⟩
            have hw1 : IntKind.u64.wrap ((n : Int) * 16) = (A : Int) := by rw [hA, IntKind.wrap_u64]; omega
            have hw2 : IntKind.u64.wrap ((A : Int) + (D : Int)) = (T : Int) := by rw [hT, IntKind.wrap_u64]; omega
            have hlt1 : ¬ (T : Int) < (A : Int) := by omega
            have hlt2 : ¬ MV < (T : Int) := by have := HMV.out; omega
            have HTN : Hid (hexN 0 (s.data.toList.take (k + 1)) = some T ∧ T < 18446744073709551616) := Lib.hid ⟨by rw [hexN_take hkl HN.out, HDG.out]; simp only [Option.map_some, Option.some.injEq]; omega, by omega⟩
            clear hA hT hn60 hAb hcut
            go_wp2_with (first
              | fail)
            go_roundw
            case rel => exact ⟨k + 1, T, by go_num, by omega, rfl, Lib.hid HTN.out.1, Lib.hid HTN.out.2, rfl, rfl, rfl, trivial⟩
            case measure => simp [intOf]; omega
          · have hcut2 : CT ≤ (n : Int) := by omega
            have HR : Hid (s.size ≠ 16) := Lib.hid (fun h16 => by
              have h1 := hexN_lt _ _ _ HN.out
              rw [List.length_take] at h1
              have h2 : min k s.data.toList.length ≤ 15 := by omega
              have h3 := pow_small h2
              have := HCT.out
              omega)
            have HMN : Hid (MV = ((18446744073709551615 : Nat) : Int)) := Lib.hid (by have := HMV.out; omega)
            clear hcut
            go_wp2_with (first
              | fail)
            go_ret2
            rw [HMN.out]
            exact hex_mk 18446744073709551615 _ (by omega) (.inr (.inr ⟨rfl, HR.out⟩)) HB.out
        · rcases hcls with h | ⟨hml, h⟩ | ⟨hml, hnone⟩
          · exact absurd h hD
          · obtain ⟨P, hP⟩ : ∃ P : Nat, m - 97 = (P : Int) := ⟨(m - 97).toNat, by omega⟩
            obtain ⟨D, hDD⟩ : ∃ D : Nat, (P : Int) + 10 = (D : Int) := ⟨P + 10, by omega⟩
            have hPb : P ≤ 25 := by omega
            have i1 : (97 : Int) ≤ m := hml.1
            have i2 : m ≤ 122 := hml.2
            have h95 : ¬ c = 95 := by
              rintro rfl
              have : m = 127 := by rw [← hm]; decide
              omega
            have b95 : (c == (95 : Int)) = false := beq_eq_false_iff_ne.2 h95
            clear h95
            rcases h with ⟨hx, h16⟩ | ⟨hx, h16⟩
            · have hd1 : ¬ (16 : Int) ≤ (D : Int) := by omega
              have hDb : D ≤ 35 := by omega
              have HDG : Hid (hexD (s.data.toList[k]'hkl) = some D) := Lib.hid (by rw [← HBB.out, hx]; congr 1; omega)
              clear hml hx h16 hm hb hcc hge
              by_cases q1 : 48 ≤ c
              · have q2 : ¬ c ≤ 57 := by omega
                clear hD
                by_cases hcut : (n : Int) < CT
                · have hcut2 : ¬ CT ≤ (n : Int) := by omega
                  have hn60 : n < 1152921504606846976 := by have := HCT.out; omega
                  obtain ⟨A, hA⟩ : ∃ A : Nat, (n : Int) * 16 = (A : Int) := ⟨n * 16, by omega⟩
                  have hAb : A ≤ 18446744073709551600 := by omega
                  obtain ⟨T, hT⟩ : ∃ T : Nat, (A : Int) + (D : Int) = (T : Int) := ⟨A + D, by omega⟩
                  have hw1 : IntKind.u64.wrap ((n : Int) * 16) = (A : Int) := by rw [hA, IntKind.wrap_u64]; omega
                  have hw2 : IntKind.u64.wrap ((A : Int) + (D : Int)) = (T : Int) := by rw [hT, IntKind.wrap_u64]; omega
                  have hlt1 : ¬ (T : Int) < (A : Int) := by omega
                  have hlt2 : ¬ MV < (T : Int) := by have := HMV.out; omega
                  have HTN : Hid (hexN 0 (s.data.toList.take (k + 1)) = some T ∧ T < 18446744073709551616) := Lib.hid ⟨by rw [hexN_take hkl HN.out, HDG.out]; simp only [Option.map_some, Option.some.injEq]; omega, by omega⟩
                  clear hA hT hn60 hAb hcut
                  go_wp2_with (first
                    | (go_at_call 205; refine (Tryz.internal_strconv_lower c _).mono ?_; rw [HM.out]; rintro en w5 ⟨rfl, rfl⟩))
                  go_roundw
                  case rel => exact ⟨k + 1, T, by go_num, by omega, rfl, Lib.hid HTN.out.1, Lib.hid HTN.out.2, rfl, rfl, rfl, trivial⟩
                  case measure => simp [intOf]; omega
                · have hcut2 : CT ≤ (n : Int) := by omega
                  have HR : Hid (s.size ≠ 16) := Lib.hid (fun h16 => by
                    have h1 := hexN_lt _ _ _ HN.out
                    rw [List.length_take] at h1
                    have h2 : min k s.data.toList.length ≤ 15 := by omega
                    have h3 := pow_small h2
                    have := HCT.out
                    omega)
                  have HMN : Hid (MV = ((18446744073709551615 : Nat) : Int)) := Lib.hid (by have := HMV.out; omega)
                  clear hcut
                  go_wp2_with (first
                    | (go_at_call 205; refine (Tryz.internal_strconv_lower c _).mono ?_; rw [HM.out]; rintro en w5 ⟨rfl, rfl⟩))
                  go_ret2
                  rw [HMN.out]
                  exact hex_mk 18446744073709551615 _ (by omega) (.inr (.inr ⟨rfl, HR.out⟩)) HB.out
              · clear hD
                by_cases hcut : (n : Int) < CT
                · have hcut2 : ¬ CT ≤ (n : Int) := by omega
                  have hn60 : n < 1152921504606846976 := by have := HCT.out; omega
                  obtain ⟨A, hA⟩ : ∃ A : Nat, (n : Int) * 16 = (A : Int) := ⟨n * 16, by omega⟩
                  have hAb : A ≤ 18446744073709551600 := by omega
                  obtain ⟨T, hT⟩ : ∃ T : Nat, (A : Int) + (D : Int) = (T : Int) := ⟨A + D, by omega⟩
                  have hw1 : IntKind.u64.wrap ((n : Int) * 16) = (A : Int) := by rw [hA, IntKind.wrap_u64]; omega
                  have hw2 : IntKind.u64.wrap ((A : Int) + (D : Int)) = (T : Int) := by rw [hT, IntKind.wrap_u64]; omega
                  have hlt1 : ¬ (T : Int) < (A : Int) := by omega
                  have hlt2 : ¬ MV < (T : Int) := by have := HMV.out; omega
                  have HTN : Hid (hexN 0 (s.data.toList.take (k + 1)) = some T ∧ T < 18446744073709551616) := Lib.hid ⟨by rw [hexN_take hkl HN.out, HDG.out]; simp only [Option.map_some, Option.some.injEq]; omega, by omega⟩
                  clear hA hT hn60 hAb hcut
                  go_wp2_with (first
                    | (go_at_call 205; refine (Tryz.internal_strconv_lower c _).mono ?_; rw [HM.out]; rintro en w5 ⟨rfl, rfl⟩))
                  go_roundw
                  case rel => exact ⟨k + 1, T, by go_num, by omega, rfl, Lib.hid HTN.out.1, Lib.hid HTN.out.2, rfl, rfl, rfl, trivial⟩
                  case measure => simp [intOf]; omega
                · have hcut2 : CT ≤ (n : Int) := by omega
                  have HR : Hid (s.size ≠ 16) := Lib.hid (fun h16 => by
                    have h1 := hexN_lt _ _ _ HN.out
                    rw [List.length_take] at h1
                    have h2 : min k s.data.toList.length ≤ 15 := by omega
                    have h3 := pow_small h2
                    have := HCT.out
                    omega)
                  have HMN : Hid (MV = ((18446744073709551615 : Nat) : Int)) := Lib.hid (by have := HMV.out; omega)
                  clear hcut
                  go_wp2_with (first
                    | (go_at_call 205; refine (Tryz.internal_strconv_lower c _).mono ?_; rw [HM.out]; rintro en w5 ⟨rfl, rfl⟩))
                  go_ret2
                  rw [HMN.out]
                  exact hex_mk 18446744073709551615 _ (by omega) (.inr (.inr ⟨rfl, HR.out⟩)) HB.out
            · have hd1 : (16 : Int) ≤ (D : Int) := by omega
              have HBAD : Hid (hexN 0 s.data.toList = none) := Lib.hid (hexN_bad hkl (by rw [← HBB.out]; exact hx))
              clear hml hx h16 hm hb hcc hge
              by_cases q1 : 48 ≤ c
              · have q2 : ¬ c ≤ 57 := by omega
                clear hD
                go_wp2_with (first
                  | (go_at_call 205; refine (Tryz.internal_strconv_lower c _).mono ?_; rw [HM.out]; rintro en w5 ⟨rfl, rfl⟩))
                go_ret2
                exact hex_mk 0 _ (by omega) (.inr (.inl ⟨rfl, .inr HBAD.out⟩)) HB.out
              · clear hD
                go_wp2_with (first
                  | (go_at_call 205; refine (Tryz.internal_strconv_lower c _).mono ?_; rw [HM.out]; rintro en w5 ⟨rfl, rfl⟩))
                go_ret2
                exact hex_mk 0 _ (by omega) (.inr (.inl ⟨rfl, .inr HBAD.out⟩)) HB.out
          · have HBAD : Hid (hexN 0 s.data.toList = none) := Lib.hid (hexN_bad hkl (by rw [← HBB.out]; exact hnone))
            by_cases h95 : c = 95
            · subst h95
              by_cases q3 : 97 ≤ m
              · have q4 : ¬ m ≤ 122 := by omega
                clear hml hnone hm hb hcc hge hD
                go_wp2_with (first
                  | (go_at_call 205; refine (Tryz.internal_strconv_lower 95 _).mono ?_; rw [HM.out]; rintro en w5 ⟨rfl, rfl⟩))
                go_ret2
                exact hex_mk 0 _ (by omega) (.inr (.inl ⟨rfl, .inr HBAD.out⟩)) HB.out
              · clear hml hnone hm hb hcc hge hD
                go_wp2_with (first
                  | (go_at_call 205; refine (Tryz.internal_strconv_lower 95 _).mono ?_; rw [HM.out]; rintro en w5 ⟨rfl, rfl⟩))
                go_ret2
                exact hex_mk 0 _ (by omega) (.inr (.inl ⟨rfl, .inr HBAD.out⟩)) HB.out
            · have b95 : (c == (95 : Int)) = false := beq_eq_false_iff_ne.2 h95
              clear h95
              by_cases q1 : 48 ≤ c
              · have q2 : ¬ c ≤ 57 := by omega
                by_cases q3 : 97 ≤ m
                · have q4 : ¬ m ≤ 122 := by omega
                  clear hml hnone hm hb hcc hge hD
                  go_wp2_with (first
                    | (go_at_call 205; refine (Tryz.internal_strconv_lower c _).mono ?_; rw [HM.out]; rintro en w5 ⟨rfl, rfl⟩))
                  go_ret2
                  exact hex_mk 0 _ (by omega) (.inr (.inl ⟨rfl, .inr HBAD.out⟩)) HB.out
                · clear hml hnone hm hb hcc hge hD
                  go_wp2_with (first
                    | (go_at_call 205; refine (Tryz.internal_strconv_lower c _).mono ?_; rw [HM.out]; rintro en w5 ⟨rfl, rfl⟩))
                  go_ret2
                  exact hex_mk 0 _ (by omega) (.inr (.inl ⟨rfl, .inr HBAD.out⟩)) HB.out
              · by_cases q3 : 97 ≤ m
                · have q4 : ¬ m ≤ 122 := by omega
                  clear hml hnone hm hb hcc hge hD
                  go_wp2_with (first
                    | (go_at_call 205; refine (Tryz.internal_strconv_lower c _).mono ?_; rw [HM.out]; rintro en w5 ⟨rfl, rfl⟩))
                  go_ret2
                  exact hex_mk 0 _ (by omega) (.inr (.inl ⟨rfl, .inr HBAD.out⟩)) HB.out
                · clear hml hnone hm hb hcc hge hD
                  go_wp2_with (first
                    | (go_at_call 205; refine (Tryz.internal_strconv_lower c _).mono ?_; rw [HM.out]; rintro en w5 ⟨rfl, rfl⟩))
                  go_ret2
                  exact hex_mk 0 _ (by omega) (.inr (.inl ⟨rfl, .inr HBAD.out⟩)) HB.out
      · have hkk : k = s.size := by omega
        have HY : Hid (hexN 0 s.data.toList = some n) := Lib.hid (by have := HN.out; rwa [List.take_of_length_le (by rw [HLEN.out]; omega)] at this)
        clear hkk
        go_wp2_with fail
        go_ret2
        exact hex_mk n _ HNB.out (.inl ⟨rfl, HZ.out, HY.out⟩) HB.out
end Go.Proofs.YtmecmlpoallpcaaGreatDoor

/- code.float: is a text a float's bits? -/
namespace Go.Proofs.YtmecmlpoallpcaaGreatDoor
set_option linter.unusedVariables false
open Go.RowKit Go.Proofs.PeepPlain

def HexErr (s : ByteArray) (n : Nat) (v : Value) : Prop := (v = .nilIface ∧ s.size ≠ 0 ∧ hexN 0 s.data.toList = some n) ∨ ((∃ N, v = .iface 236 (.pointer (some ⟨N, 0, none⟩))) ∧ (hexN 0 s.data.toList = none ∨ s.size ≠ 16))
set_option maxRecDepth 20000 in
set_option maxHeartbeats 4000000 in
theorem hexpub_walk (s : ByteArray) (w : World) (hs : s.size ≤ 2000000) (G : GlobP w) :
    Calls Tryz.prog 140 #[.string s, .int .i64 16, .int .i64 64] w fun e w' => (∃ n v, e = .returned (.tuple #[.int .u64 (n : Nat), v]) ∧ n < 18446744073709551616 ∧ HexErr s n v) ∧ Below w.heap.size w w' := by
  obtain ⟨ev, hv, hev⟩ := G.syn
  obtain ⟨ew, hw, hew⟩ := G.rng
  have HS := Lib.hid hs
  have hx := hex_walk s w hs
  have H5 := Lib.hid (show ∀ w2, Below w.heap.size w w2 → w2.cell? ⟨5, 0, none⟩ = some ev from fun w2 hb => (hb.cell (p := ⟨5, 0, none⟩) (show 5 < _ by have := G.size; omega)).trans hv)
  have H6 := Lib.hid (show ∀ w2, Below w.heap.size w w2 → w2.cell? ⟨6, 0, none⟩ = some ew from fun w2 hb => (hb.cell (p := ⟨6, 0, none⟩) (show 6 < _ by have := G.size; omega)).trans hw)
  have HE := Lib.hid hev
  have HW := Lib.hid hew
  clear hs hv hw hev hew G
  go_enter Tryz.func140, Tryz.ntmps140
  go_wp2_with (go_at_call 170; refine hx.mono ?_)
  rintro en w2 ⟨⟨n, v, rfl, hn, hv⟩, hb2⟩
  have HB2 := Lib.hid hb2
  have HN := Lib.hid hn
  clear hb2 hn hx
  rcases hv with ⟨rfl, h1, h2⟩ | ⟨rfl, h1⟩ | ⟨rfl, h1⟩
  · have HA := Lib.hid h1
    have HC := Lib.hid h2
    clear h1 h2
    go_wp2
    go_returns
    exact ⟨⟨_, _, rfl, HN.out, .inl ⟨rfl, HA.out, HC.out⟩⟩, HB2.out⟩
  · have HA := Lib.hid h1
    clear h1
    go_wp2_with (go_at_call 146; refine (Tryz.strconv_toError_syntax _ s _ _ ev _ (by have := HS.out; omega) (H5.out _ HB2.out) HE.out).mono ?_)
    rintro en w3 ⟨N, rfl, _, _, hb3⟩
    have HB3 := Lib.hid hb3
    clear hb3
    go_wp2
    go_returns
    exact ⟨⟨_, _, rfl, HN.out, .inr ⟨⟨_, rfl⟩, HA.out.elim (fun h => .inr (by rw [h]; decide)) .inl⟩⟩, HB2.out.trans (below_low HB3.out HB2.out.size)⟩
  · have HA := Lib.hid h1
    clear h1
    go_wp2_with (go_at_call 146; refine (Tryz.strconv_toError_range _ s _ _ ew _ (by have := HS.out; omega) (H6.out _ HB2.out) HW.out).mono ?_)
    rintro en w3 ⟨N, rfl, _, _, hb3⟩
    have HB3 := Lib.hid hb3
    clear hb3
    go_wp2
    go_returns
    exact ⟨⟨_, _, rfl, HN.out, .inr ⟨⟨_, rfl⟩, .inr HA.out⟩⟩, HB2.out.trans (below_low HB3.out HB2.out.size)⟩

theorem hexN_ascii : ∀ (l : List UInt8) (n m : Nat), hexN n l = some m → ∀ (j : Nat) (b : UInt8), l[j]? = some b → b.toNat < 128 ∧ b.toNat ≠ 43
  | [], _, _, _, j, b, hb => by simp at hb
  | c :: l, n, m, h, j, b, hb => by
    rw [hexN] at h
    cases hc : hexD c with
    | none => rw [hc] at h; simp at h
    | some d =>
      cases j with
      | zero =>
        simp only [List.getElem?_cons_zero, Option.some.injEq] at hb
        subst hb
        unfold hexD at hc
        split at hc
        · omega
        · split at hc
          · omega
          · split at hc
            · omega
            · simp at hc
      | succ j => rw [hc] at h; exact hexN_ascii l _ m (by simpa using h) j b (by simpa using hb)

/-- a NaN's bits (of an unsigned 64-bit number) -/
def nanB (n : Nat) : Bool := decide (bits .and .u64 ((n : Int) / 4503599627370496) 2047 = 2047) && !decide (IntKind.u64.wrap ((n : Int) * 4096) = 0)
/-- the text of a float: sixteen small hexadecimal digits, one NaN only -/
def floatB (s : ByteArray) : Bool := decide (s.size = 16) && (match hexN 0 s.data.toList with
  | some n => ((⟨(Lib.toLowerA s.data.toList).toArray⟩ : ByteArray).toList == s.toList) && (!nanB n || decide ((n : Int) = 9221120237041090561))
  | none => false)
theorem floatB_size {s : ByteArray} (h : ¬ s.size = 16) : floatB s = false := by
  unfold floatB; simp [h]
theorem floatB_none {s : ByteArray} (h : hexN 0 s.data.toList = none) : floatB s = false := by
  unfold floatB; simp [h]
theorem floatB_some {s : ByteArray} {n : Nat} (h : s.size = 16) (h2 : hexN 0 s.data.toList = some n) : floatB s = (((⟨(Lib.toLowerA s.data.toList).toArray⟩ : ByteArray).toList == s.toList) && (!nanB n || decide ((n : Int) = 9221120237041090561))) := by
  unfold floatB; rw [h2]; simp [h]
theorem hexN_first {s : ByteArray} {n : Nat} (h2 : hexN 0 s.data.toList = some n) (h : s.size = 16) : ¬ ((s[0]'(by omega)).toNat = 43) := by
  refine (hexN_ascii _ _ _ h2 0 (s[0]'(by omega)) ?_).2
  rw [List.getElem?_eq_getElem (by simp only [Array.length_toList, ByteArray.size_data]; omega), Array.getElem_toList]; rfl

set_option maxRecDepth 20000 in
theorem float_walk (s : ByteArray) (w : World) (hs : s.size ≤ 2000000) (G : GlobP w) :
    Calls Tryz.prog 107 #[.string s] w fun e w' => e = .returned (.bool (floatB s)) ∧ Below w.heap.size w w' := by
  have hx := hexpub_walk s w hs G
  have HS := Lib.hid hs
  clear hs G
  go_enter Tryz.func107, Tryz.ntmps107
  go_wp2_with (go_at_call 140; refine hx.mono ?_)
  rintro en w2 ⟨⟨n, v, rfl, hn, hv⟩, hb2⟩
  have HB2 := Lib.hid hb2
  have HN := Lib.hid hn
  clear hb2 hn hx
  by_cases h16 : s.size = 16
  · have HC := Lib.hid h16
    have hlen : ((s.size : Nat) : Int) = 16 := by omega
    rcases hv with ⟨rfl, h1, h2⟩ | ⟨⟨N, rfl⟩, h1⟩
    · have HL := Lib.hid (show ∀ w2, Calls Tryz.prog 141 #[.string s] w2 fun e w' => e = .returned (.string ⟨(Lib.toLowerA s.data.toList).toArray⟩) ∧ Below w2.heap.size w2 w' from fun w2 => Tryz.strings_ToLower_ascii s w2 (by have := HS.out; omega) (fun j b hb => (hexN_ascii _ _ _ h2 j b hb).1))
      have HF := Lib.hid (floatB_some h16 h2)
      have HZ := Lib.hid (show ∀ h : 0 < s.size, ¬ ((s[0]'h).toNat = 43) from fun _ => hexN_first h2 h16)
      generalize (⟨(Lib.toLowerA s.data.toList).toArray⟩ : ByteArray) = X at HL HF
      clear h1 h2 h16
      cases hxs : (X.toList == s.toList)
      · go_wp2_with (go_at_call 141; refine (HL.out _).mono ?_; rintro en w3 ⟨rfl, hb3⟩)
        go_ret
        exact ⟨ret_bool (by rw [HF.out, hxs]; rfl), HB2.out.trans (below_low hb3 HB2.out.size)⟩
      · rw [hxs, Bool.true_and] at HF
        go_wp2_with (go_at_call 141; refine (HL.out _).mono ?_; rintro en w3 ⟨rfl, hb3⟩)
        all_goals (go_ret; refine ⟨ret_bool ?_, HB2.out.trans (below_low hb3 HB2.out.size)⟩)
        all_goals (rw [HF.out]; unfold nanB; have hz := HZ.out (by omega); clear HF HL HZ; first | (simp [*]; done) | (exfalso; simp at *; omega) | (rename_i ha hb; rw [ha, decide_eq_false hb, show (IntKind.u64.wrap ((n : Int) * 4096) != 0) = true from by simpa using hb]; simp only [decide_true, Bool.not_false, Bool.and_true, Bool.not_true, Bool.false_or]; rw [Bool.eq_iff_iff]; simp))
    · have HF := Lib.hid (floatB_none (s := s) (h1.resolve_right (by omega)))
      clear h1 h16
      go_wp2
      go_ret
      exact ⟨ret_bool (by rw [HF.out]), HB2.out⟩
  · have hlen : ¬ ((s.size : Nat) : Int) = 16 := by omega
    have HF := Lib.hid (floatB_size h16)
    clear hv h16
    go_wp2
    all_goals (go_ret; exact ⟨ret_bool (by rw [HF.out]), HB2.out⟩)
end Go.Proofs.YtmecmlpoallpcaaGreatDoor
