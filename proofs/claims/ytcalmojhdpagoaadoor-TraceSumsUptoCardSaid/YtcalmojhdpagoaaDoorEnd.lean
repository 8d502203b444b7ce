/- The walk of end. -/
import Derived.Test.YtcalmojhdpagoaaDoorBegin
import Derived.Test.YtcalmojhdpagoaaDoorKeep3
import Derived.StillTailTactics
import Derived.Deep.QuietTactic
import Derived.BigQuiet
import Derived.Deep.DeepCutAuto
import Derived.Deep.CutBlock
namespace Go.Proofs.YtcalmojhdpagoaaDoor
set_option linter.unusedVariables false
open Go.RowKit

/-- What stands behind the loop that strikes the calls that are left. -/
def Struck (X : World) (A : Option Addr) (c : Nat) (all : List Rec) (L : List Nat) (v : Value) (w : World) : Prop := ∃ k n, v = .slice A k c ∧ k ≤ L.length ∧ pop all L = L.take k ∧ w = X.drewN n

/-- What stands behind the store of the name's list. -/
def Laid (w0 : World) (B B0 gc gm : Nat) (e : Ev) (st : St) (A : Option Addr) (k c : Nat) (w : World) : Prop :=
  ∃ allv opv vs, TS w B gc gm { st with bg := putK st.bg e.key (pop st.all (getK st.bg e.key)) } allv opv vs ∧ Kept B0 w0 w ∧ (pop st.all (getK st.bg e.key)).length = k ∧
    w.ownsRow B 3 1 (.slice A k c) k (nats (pop st.all (getK st.bg e.key)))

/-- The store of the name's list. -/
theorem lay_step {X : World} {B B0 gc gm k c : Nat} {A : Option Addr} {st : St} {allv opv : Value} {vs : List Value} {e : Ev} {L : List Nat} (h : TS X B gc gm st allv opv vs) (hB0 : B0 ≤ gm)
    (hown : X.ownsRow B 3 1 (.slice A L.length c) L.length (nats L)) (hL : L = getK st.bg e.key)
    (hway : (∃ j, idxK (st.bg.map (·.1)) e.key = some j ∧ vs[j]? = some (.slice A L.length c) ∧ st.bg[j]? = some (e.key, L)) ∨ (idxK (st.bg.map (·.1)) e.key = none ∧ A = none ∧ c = 0 ∧ L = []))
    (hk : k ≤ L.length) (hpop : pop st.all L = L.take k) (hA : A ≠ none ∨ L.length = 0 ∧ c = 0) :
    ∃ Z, (Instr.mapUpdate 36 (.map (some gm)) (.agg #[.int .i64 e.p, .string e.s]) (.slice A k c)).run Tryd.prog X = .ok () Z ∧ Laid X B B0 gc gm e st A k c Z := by
  have hlen : (L.take k).length = k := by rw [List.length_take]; omega
  have hok := own_take hown hk (by rcases hA with h | h; exact .inl h; exact .inr ⟨by omega, h.1⟩)
  rw [hlen] at hok
  rcases hway with ⟨j, hidx, hv, hbj⟩ | ⟨hidx, rfl, rfl, rfl⟩
  · have hu := update_old h.map e.p e.s hidx (.slice A k c)
    refine ⟨_, hu, ?_⟩
    have hs := h.store (w3 := X) (v' := .slice A k c) (l' := L.take k) hv hbj ⟨rfl, rfl, rfl, Nat.le_refl _, fun _ _ _ => rfl⟩ (by rw [hlen]; exact hok) (by
      cases A with
      | none => exact .inl rfl
      | some a => exact .inr (.inl rfl))
    obtain ⟨hput, _, _, _⟩ := putK_at (pop st.all (getK st.bg e.key)) hidx
    rw [← hL, hpop] at hput
    refine ⟨allv, opv, vs.set j (.slice A k c), ?_, (Kept.refl _ _).setMap h.map hB0 _ _, by rw [← hL, hpop, hlen], ?_⟩
    · rw [← hL, hpop, hput]; exact hs
    · rw [← hL, hpop]; exact own_setMap hok h.map _ _
  · have hu := update_new h.map e.p e.s hidx (.slice none k 0)
    obtain rfl : k = 0 := by simpa using hk
    refine ⟨_, hu, ?_⟩
    have hs := h.entry (e.p, e.s)
    obtain ⟨hput, _⟩ := putK_new (pop st.all (getK st.bg e.key)) hidx
    rw [← hL, hpop, List.take_nil] at hput
    refine ⟨allv, opv, vs ++ [.slice none 0 0], ?_, (Kept.refl _ _).setMap h.map hB0 _ _, by rw [← hL, hpop]; rfl, ?_⟩
    · rw [← hL, hpop, List.take_nil, hput]; exact hs
    · rw [← hL, hpop]; exact World.ownsRow_nil _ _ _ _

set_option maxHeartbeats 2000000 in
theorem end_any (w : World) (B B0 gc gm : Nat) (st : St) (allv opv : Value) (vs : List Value) (e : Ev) (h : TS w B gc gm st allv opv vs) (hi : Inv st) (hB0 : B0 ≤ gm ∧ B0 ≤ gc) (hn : st.all.length ≤ 200000) (ho : st.op.length ≤ 200000) (hbl : ∀ l ∈ st.bg, l.2.length ≤ 200000) :
    Calls Tryd.prog 17 #[.pointer (some ⟨gc, 0, none⟩), .agg #[.int .i64 e.k, .int .i64 e.p, .string e.s]] w fun en w' => en = .returned (.tuple #[]) ∧ Became B B0 gc gm (st.finish e) w w' := by
  obtain ⟨Aa, caa, rfl⟩ := own_shape h.all
  obtain ⟨Ao, cao, rfl⟩ := own_shape h.opn
  obtain ⟨X, hX⟩ : ∃ X, X = ((w.alloc (.cells #[.int .i64 e.k, .int .i64 e.p, .string e.s] 33)).alloc (.cells #[.int .i64 e.p, .string e.s] 54)) := ⟨_, rfl⟩
  have hTX : TS X B gc gm st (.slice Aa st.all.length caa) (.slice Ao st.op.length cao) vs := by rw [hX]; exact (h.alloc _).alloc _
  have hKX : Kept B0 w X := by
    have := h.low
    rw [hX]; exact ((((Kept.refl _ _).alloc (by omega) _).alloc (by simp; omega) _))
  have hKR : Row X (w.heap.size + 1) 54 [.int .i64 e.p, .string e.s] := by
    have := Row.made (w.alloc (.cells #[.int .i64 e.k, .int .i64 e.p, .string e.s] 33)) 54 [.int .i64 e.p, .string e.s]
    rw [hX]
    simp only [World.size_alloc] at this
    exact this
  have x0 : ∀ n, (X.drewN n).cell? ⟨gc, 0, none⟩ = some (.slice Aa st.all.length caa) := fun n => hTX.row.cell 0
  have x1 : ∀ n, (X.drewN n).cell? ⟨gc, 1, none⟩ = some (.slice Ao st.op.length cao) := fun n => hTX.row.cell 1
  have x2 : ∀ n, (X.drewN n).cell? ⟨gc, 2, none⟩ = some (.map (some gm)) := fun n => hTX.row.cell 2
  have x3 : ∀ n, (X.drewN n).cell? ⟨w.heap.size + 1, 0, none⟩ = some (.int .i64 e.p) := fun n => hKR.cell 0
  have x4 : ∀ n, (X.drewN n).cell? ⟨w.heap.size + 1, 1, none⟩ = some (.string e.s) := fun n => hKR.cell 1
  -- what the map says
  have hways : ∃ (A : Option Addr) (c : Nat), (∀ n, (Instr.lookup 36 (.map (some gm)) (.agg #[.int .i64 e.p, .string e.s]) false).run Tryd.prog (X.drewN n) = .ok (.slice A (getK st.bg e.key).length c) (X.drewN n)) ∧
      X.ownsRow B 3 1 (.slice A (getK st.bg e.key).length c) (getK st.bg e.key).length (nats (getK st.bg e.key)) ∧ (getK st.bg e.key).length ≤ 200000 ∧
      ((∃ j, idxK (st.bg.map (·.1)) e.key = some j ∧ vs[j]? = some (.slice A (getK st.bg e.key).length c) ∧ st.bg[j]? = some (e.key, getK st.bg e.key)) ∨ (idxK (st.bg.map (·.1)) e.key = none ∧ A = none ∧ c = 0 ∧ getK st.bg e.key = [])) := by
    have hlk := fun n => look_ (hTX.drewN n).map e.p e.s
    cases hidx : idxK (st.bg.map (·.1)) e.key with
    | some j =>
      obtain ⟨_, l, hbj, hget⟩ := putK_at [] hidx
      have hjl : j < vs.length := by
        have h1 : st.bg.length = vs.length := by simpa using h.map.1
        have := (List.getElem?_eq_some_iff.1 hbj).1
        omega
      obtain ⟨v, hv⟩ : ∃ v, vs[j]? = some v := ⟨_, List.getElem?_eq_getElem hjl⟩
      obtain ⟨Av, cav, rfl⟩ := own_shape (hTX.each j v _ hv hbj)
      rw [hget]
      refine ⟨Av, cav, fun n => ?_, hTX.each j _ _ hv hbj, hbl _ (List.mem_of_getElem? hbj), .inl ⟨j, rfl, hv, hbj⟩⟩
      have := hlk n
      rw [show idxK (st.bg.map (·.1)) (e.p, e.s) = some j from hidx] at this
      simpa [List.getD, hv] using this
    | none =>
      obtain ⟨_, hget⟩ := putK_new [] hidx
      rw [hget]
      refine ⟨none, 0, fun n => ?_, World.ownsRow_nil _ _ _ _, by simp, .inr ⟨rfl, rfl, rfl, rfl⟩⟩
      have := hlk n
      rw [show idxK (st.bg.map (·.1)) (e.p, e.s) = none from hidx] at this
      exact this
  obtain ⟨A, c, hlk, hown, hll, hway⟩ := hways
  obtain ⟨L, hL⟩ : ∃ L, L = getK st.bg e.key := ⟨_, rfl⟩
  rw [← hL] at hlk hown hll hway
  have hkeys : ∀ i ∈ L, i < st.all.length := fun i h => (hi.keys e.key i (by rw [← hL]; exact h)).1
  have X0 := Lib.hid x0
  have X2 := Lib.hid x2
  have X3 := Lib.hid x3
  have X4 := Lib.hid x4
  rw [hX] at x0 x1 x2 x3 x4 hlk
  have y0 := x0 0
  have y2 := x2 0
  have y3 := x3 0
  have y4 := x4 0
  have hcap := own_cap hown
  have HT := Lib.hid hTX
  have HK := Lib.hid hKX
  have HR := Lib.hid hKR
  have HX := Lib.hid hX
  have HI := Lib.hid hi
  have HL := Lib.hid hL
  have HO := Lib.hid hown
  have HW := Lib.hid hway
  have HKE := Lib.hid hkeys
  have HH := Lib.hid h
  have HCAP := Lib.hid hcap
  clear hTX hKX hKR hX hi hL hown hway hkeys h hbl hcap
  go_enter Tryd.func17, Tryd.ntmps17
  go_wp2
  go_quiet (fail)
  go_upto_block 0 with fail
  go_cut [5] (fun v wx => Struck X A c st.all L v wx)
  case first =>
    go_wp2
    go_loopw [5] (fun v wr => ∃ k n : Nat, v = .slice A k c ∧ k ≤ L.length ∧ Hid (pop st.all L = pop st.all (L.take k)) ∧ Hid (wr = X.drewN n)) (fun v _ => match v with | .slice _ k _ => k | _ => 0)
    case atStart => exact ⟨L.length, nq, rfl, Nat.le_refl _, by rw [List.take_length]; exact rfl, by rw [HX.out]; exact rfl⟩
    case round =>
      clear x0 x1 x2 x3 x4 hlk y0 y2 y3 y4
      obtain ⟨k, n, rfl, hk, HP, HWR⟩ := hrel
      obtain rfl := HWR.out
      clear HWR
      cases k with
      | zero =>
        go_wp2
        go_quiet (fail)
        go_wp2
        go_meet
        case rel => exact ⟨0, n + nq, rfl, Nat.zero_le _, by rw [HP.out, pop_nil]; rfl, by first | rfl | rw [World.drewN_drewN]⟩
      | succ m =>
        obtain ⟨x, hx⟩ : ∃ x, L[m]? = some x := ⟨_, List.getElem?_eq_getElem (by omega)⟩
        have hxa := HKE.out x (List.mem_of_getElem? hx)
        obtain ⟨r, hr⟩ : ∃ r, st.all[x]? = some r := ⟨_, List.getElem?_eq_getElem hxa⟩
        obtain ⟨g, rfl, hc1, hc2⟩ := own_addr HO.out (by omega)
        obtain ⟨ga, rfl, ha1, ha2⟩ := own_addr HT.out.all (by omega)
        have c1 := own_nat HO.out hx
        have c2 := own_rec (j := 5) HT.out.all hr (by omega) rfl
        have z0 : X.cell? ⟨gc, 0, none⟩ = _ := X0.out 0
        simp only [maxLen] at hc2 ha2
        cases hlf : r.lf with
        | true =>
          rw [hlf] at c2
          have HPN := Lib.hid (pop_left hx ((lf_at hr).trans hlf))
          go_wp2
          go_quiet (fail)
          go_wp2
          go_roundw
          case rel => exact ⟨m, n + nq, rfl, by omega, HP.out.trans HPN.out, by first | rfl | rw [World.drewN_drewN]⟩
          case measure => simp
        | false =>
          rw [hlf] at c2
          have HPN := Lib.hid (pop_stays hx ((lf_at hr).trans hlf))
          go_wp2
          go_quiet (fail)
          go_wp2
          go_meet
          case rel => exact ⟨m + 1, n + nq, rfl, hk, HP.out.trans HPN.out, by first | rfl | rw [World.drewN_drewN]⟩
  case rest =>
    clear x0 x1 x2 x3 x4 hlk y0 y2 y3 y4
    obtain ⟨k, n, rfl, hk, hpop, rfl⟩ := hcut
    obtain ⟨Z, hz, hlaid⟩ := lay_step (B0 := B0) (HT.out.drewN (n + 1)) hB0.1 HO.out HL.out HW.out hk hpop HCAP.out.2.2
    have z2 : X.cell? ⟨gc, 2, none⟩ = some (.map (some gm)) := X2.out n
    have z3 : X.cell? ⟨w.heap.size + 1, 0, none⟩ = some (.int .i64 e.p) := X3.out n
    have z4 : X.cell? ⟨w.heap.size + 1, 1, none⟩ = some (.string e.s) := X4.out n
    have HZ := Lib.hid hlaid
    have HPOP := Lib.hid hpop
    clear hlaid hpop
    go_upto_region 5 with fail
    have hz' : (Instr.mapUpdate 36 (.map (some gm)) (.agg #[.int .i64 e.p, .string e.s]) (.slice A k c)).run Tryd.prog (X.drewN n).drew = .ok () Z := hz
    have hc2 : Z.cell? ⟨gc, 2, none⟩ = some (.map (some gm)) := by obtain ⟨_, _, _, hT, _⟩ := HZ.out; exact hT.row.cell 2
    have hrn : Row Z (w.heap.size + 1) 54 [.int .i64 e.p, .string e.s] := by obtain ⟨_, _, _, _, hK, _⟩ := HZ.out; exact hK.row HR.out (by decide) (by decide) (by decide)
    have hc3 := hrn.cell 0
    have hc4 := hrn.cell 1
    clear hrn
    go_region_held3 (fun w' => w'.cell? ⟨gc, 2, none⟩ = some (.map (some gm)) ∧ w'.cell? ⟨w.heap.size + 1, 0, none⟩ = some (.int .i64 e.p) ∧ w'.cell? ⟨w.heap.size + 1, 1, none⟩ = some (.string e.s)) (first | go_keep | exact ⟨hc2, hc3, hc4⟩) (first | fail)
    clear hz hz' hc2 hc3 hc4 z2 z3 z4
    obtain ⟨allv1, opv1, vs1, hT1, hK1, hkl, hown1⟩ := HZ.out
    have hKw : Kept B0 w Z := (HK.out.drewN (n + 1)).trans hK1
    obtain ⟨Pl, hP⟩ : ∃ Pl, Pl = pop st.all (getK st.bg e.key) := ⟨_, rfl⟩
    rw [← hP] at hT1 hkl hown1
    have HI2 := HI.out
    have HPP := Lib.hid hP
    have HKW := Lib.hid hKw
    have HOW1 := Lib.hid hown1
    clear HZ HK HT HR HX HL HO HW HKE HH HCAP X0 X2 X3 X4 HPOP hK1 hKw HI hP hk hll
    cases k with
    | zero =>
      have HT1 := Lib.hid hT1
      have hPn : Pl = [] := List.eq_nil_of_length_eq_zero hkl
      have HPN := Lib.hid hPn
      clear hT1 hkl HI2 hown1 hPn
      go_wp2
      refine bodyPost_ret (results_none rfl _ _ _) rfl ?_
      refine ⟨rfl, allv1, opv1, vs1, ?_, HKW.out⟩
      have hT := HT1.out
      have hf : st.finish e = { st with bg := putK st.bg e.key (pop st.all (getK st.bg e.key)) } := by
        unfold St.finish
        rw [← HPP.out, HPN.out]
        rfl
      rw [hf, ← HPP.out]
      exact hT
    | succ m =>
      obtain ⟨i, hPi⟩ : ∃ i, Pl[m]? = some i := ⟨_, List.getElem?_eq_getElem (by omega)⟩
      have hlast : Pl.getLast? = some i := by
        have := (take_last hPi).1
        rwa [List.take_of_length_le (by omega)] at this
      obtain ⟨k', hilt, hop, hd⟩ : ∃ k', i < st.all.length ∧ st.op[k']? = some i ∧ dAt st.all i = k' + 1 := by
        rcases finish_ways HI2 e with ⟨hl, _⟩ | ⟨i', k', hl, h1, h2, h3, _⟩
        · rw [← HPP.out, hlast] at hl; cases hl
        · rw [← HPP.out, hlast] at hl
          injection hl with hl
          subst hl
          exact ⟨k', h1, h2, h3⟩
      obtain ⟨r, hr⟩ : ∃ r, st.all[i]? = some r := ⟨_, List.getElem?_eq_getElem hilt⟩
      have hrd : r.d = k' + 1 := (d_at hr).symm.trans hd
      have hk'l : k' < st.op.length := (List.getElem?_eq_some_iff.1 hop).1
      obtain ⟨Aa1, ca1, rfl⟩ := own_shape hT1.all
      obtain ⟨Ao1, co1, rfl⟩ := own_shape hT1.opn
      dsimp only at hT1
      obtain ⟨ga, rfl, ha1, ha2⟩ := own_addr hT1.all (by show 0 < st.all.length; omega)
      obtain ⟨go, rfl, ho1, ho2⟩ := own_addr hT1.opn (by show 0 < st.op.length; omega)
      obtain ⟨g, rfl, hc1, hc2⟩ := own_addr hown1 (by omega)
      simp only [maxLen] at ha2 ho2 hc2
      have c1 := own_nat hown1 hPi
      have d0 : Z.cell? ⟨gc, 0, none⟩ = _ := hT1.row.cell 0
      have c2 := own_rec (j := 4) hT1.all hr (by omega) rfl
      have f2 := own_free (o := i * 6 + 4) hT1.all
      have T2 : ∀ n, TS ((Z.drewN n).setCell ⟨ga, i * 6 + 4, none⟩ (.bool true)) B gc gm { st with all := st.all.modify i (fun r => { r with en := true }), bg := putK st.bg e.key Pl } _ _ vs1 := fun n => by
        have := (hT1.drewN n).setAll rfl (by omega : 4 < 6) (u := .bool true) (f := fun r => { r with en := true }) (fun r => rfl) hilt
        simpa using this
      have K2 : ∀ n, Kept B0 Z ((Z.drewN n).setCell ⟨ga, i * 6 + 4, none⟩ (.bool true)) := fun n => ((Kept.refl _ _).drewN n).setOwn (hT1.drewN n).all (.inr (.inl rfl)) (by have := hT1.low; omega) hT1.low.2.2.2 _
      have HT2 := Lib.hid T2
      have HK2 := Lib.hid K2
      have HT1 := Lib.hid hT1
      have HD := Lib.hid hrd
      have HR := Lib.hid hr
      have HOP := Lib.hid hop
      have HPI := Lib.hid hPi
      have HLA := Lib.hid hlast
      clear T2 K2 hT1 hrd hr hop hPi hlast hd hown1 hkl
      go_wp2
      go_quiet (fail)
      go_upto_region 9 with fail
      obtain ⟨Z2, hZ2⟩ : ∃ Z2, (Z.drewN nq).setCell ⟨ga, i * 6 + 4, none⟩ (.bool true) = Z2 := ⟨_, rfl⟩
      rw [hZ2]
      have hT2 := HT2.out nq
      have hK2 := HK2.out nq
      rw [hZ2] at hT2 hK2
      clear HT2 HK2 HT1 hZ2 c1 c2 f2 d0
      have hr2 : (st.all.modify i (fun r => { r with en := true }))[i]? = some { r with en := true } := by rw [List.getElem?_modify_eq, HR.out]; rfl
      have e1 : Z2.cell? ⟨gc, 1, none⟩ = _ := hT2.row.cell 1
      have e2 := own_rec (j := 3) hT2.all hr2 (by omega) rfl
      simp only [HD.out] at e2
      have hco : ¬ co1 = k' := by omega
      have HT2 := Lib.hid hT2
      have HK2 := Lib.hid hK2
      clear hT2 hK2 hr2
      go_quiet (fail)
      go_wp2
      clear e1 e2
      obtain ⟨al, hal⟩ : ∃ al, al = st.all.modify i (fun r => { r with en := true }) := ⟨_, rfl⟩
      rw [← hal] at HT2
      have hall : al.length = st.all.length := by rw [hal]; simp
      have HAL := Lib.hid hal
      have HALL := Lib.hid hall
      clear hal hall
      go_loopw [77] (fun v wr => ∃ t : Nat, v = .int .i64 t ∧ t ≤ st.op.length - k' ∧ Hid (TS wr B gc gm { st with all := leave al ((st.op.drop k').take t), bg := putK st.bg e.key Pl } (.slice (some ⟨ga, 0, none⟩) st.all.length ca1) (.slice (some ⟨go, 0, none⟩) st.op.length co1) vs1) ∧ Hid (Kept B0 Z2 wr)) (fun v _ => st.op.length - k' - (intOf v).toNat)
      case atStart => exact ⟨0, rfl, Nat.zero_le _, HT2.out.drewN _, (Kept.refl _ _).drewN _⟩
      case round =>
        obtain ⟨t, rfl, ht, HT, HK⟩ := hrel
        clear HT2
        by_cases hlt : t < st.op.length - k'
        · obtain ⟨x, hx⟩ : ∃ x, st.op[k' + t]? = some x := ⟨_, List.getElem?_eq_getElem (by omega)⟩
          have hxa := (HI2.dep _ _ hx).1
          obtain ⟨rx, hrx⟩ : ∃ rx, (leave al ((st.op.drop k').take t))[x]? = some rx := ⟨_, List.getElem?_eq_getElem (by rw [leave_length, HALL.out]; exact hxa)⟩
          have c1 := own_nat HT.out.opn hx
          have c2 := own_rec (j := 5) HT.out.all hrx (by omega) rfl
          have f2 := own_free (o := x * 6 + 5) HT.out.all
          have d0 : wr.cell? ⟨gc, 0, none⟩ = _ := HT.out.row.cell 0
          have hT3 := HT.out.setAll (f := fun r => { r with lf := true }) (u := .bool true) (i := x) (by show Value.slice _ _ _ = .slice _ (leave _ _).length _; rw [leave_length, HALL.out]) (by omega : 5 < 6) (fun r => rfl) (by show x < (leave _ _).length; rw [leave_length, HALL.out]; exact hxa)
          have hsn : (leave al ((st.op.drop k').take t)).modify x (fun r => { r with lf := true }) = leave al ((st.op.drop k').take (t + 1)) := by
            rw [← leave_snoc]
            congr 1
            rw [List.take_succ_eq_append_getElem (by rw [List.length_drop]; omega)]
            congr 2
            rw [List.getElem_drop]
            exact ((List.getElem?_eq_some_iff.1 hx).2).symm
          simp only [hsn] at hT3
          have hK3 := HK.out.setOwn (o := x * 6 + 5) HT.out.all (.inr (.inl rfl)) (by have := HT.out.low; omega) HT.out.low.2.2.2 (.bool true)
          have HT3 := Lib.hid hT3
          have HK3 := Lib.hid hK3
          have HXX := Lib.hid hx
          have HRX := Lib.hid hrx
          clear hT3 hsn hK3 hx hrx
          go_wp2
          go_roundw
          case rel => exact ⟨t + 1, by go_num, by omega, HT3.out, HK3.out⟩
          case measure => simp [intOf]; omega
        · obtain rfl : t = st.op.length - k' := by omega
          have htk : (st.op.drop k').take (st.op.length - k') = st.op.drop k' := List.take_of_length_le (by rw [List.length_drop]; omega)
          have hT := HT.out
          rw [htk] at hT
          have hrl : ∃ rl, (leave al (st.op.drop k'))[i]? = some rl ∧ rl.d = k' + 1 := by
            have : al[i]? = some { r with en := true } := by rw [HAL.out, List.getElem?_modify_eq, HR.out]; rfl
            rw [leave_at, this]
            exact ⟨_, rfl, HD.out⟩
          obtain ⟨rl, hrl, hrld⟩ := hrl
          have c1 : wr.cell? ⟨gc, 1, none⟩ = some (.slice (some ⟨go, 0, none⟩) st.op.length co1) := hT.row.cell 1
          have c2 := own_rec (j := 3) hT.all hrl (by omega) rfl
          rw [hrld] at c2
          have f1 : wr.frozen? ⟨gc, 1, none⟩ = false := hT.row.free 1
          have hop2 := own_take (k := k') hT.opn (by show k' ≤ st.op.length; omega) (.inl (by simp))
          have hlk : (st.op.take k').length = k' := by rw [List.length_take]; omega
          have hS := hT.storeOpen (w3 := wr) (opv' := .slice (some ⟨go, 0, none⟩) k' co1) (l' := st.op.take k') ⟨rfl, rfl, rfl, Nat.le_refl _, fun _ _ _ => rfl⟩ hop2 (.inr (.inl rfl))
          have hKS := HK.out.setCell (i := 1) hT.row (.inr (.inr rfl)) hB0.2 (.slice (some ⟨go, 0, none⟩) k' co1)
          have hfin : { st with all := leave al (st.op.drop k'), op := st.op.take k', bg := putK st.bg e.key Pl } = st.finish e := by
            unfold St.finish
            rw [← HPP.out]
            dsimp only
            rw [HLA.out]
            dsimp only
            rw [d_at HR.out, HD.out, HAL.out]
            rfl
          have hS2 : TS (wr.setCell ⟨gc, 1, none⟩ (.slice (some ⟨go, 0, none⟩) k' co1)) B gc gm (st.finish e) (.slice (some ⟨ga, 0, none⟩) st.all.length ca1) (.slice (some ⟨go, 0, none⟩) k' co1) vs1 := by rw [← hfin]; exact hS
          have HS2 := Lib.hid hS2
          have HKS := Lib.hid hKS
          clear hT hrl hrld hop2 hlk hS hKS hfin hS2 htk HT HK
          go_wp2
          have hwrap : IntKind.i64.wrap (k' : Int) = (k' : Int) := by
            have e : (k' : Int) % 2 ^ 64 = k' := Int.emod_eq_of_lt (by omega) (by omega)
            simp only [IntKind.wrap, IntKind.bits, IntKind.signed, e]
            rw [if_neg]
            simp
            omega
          have hle : (k' : Int) ≤ (co1 : Int) := by omega
          have hge : (0 : Int) ≤ (k' : Int) := by omega
          have hton : (k' : Int).toNat = k' := by omega
          go_still_tail 11, (by kernel_rfl)
          go_wp2
          go_end0
          exact ⟨rfl, _, _, vs1, HS2.out.drew, ((HKW.out.trans HK2.out).trans HKS.out).drew⟩
end Go.Proofs.YtcalmojhdpagoaaDoor
