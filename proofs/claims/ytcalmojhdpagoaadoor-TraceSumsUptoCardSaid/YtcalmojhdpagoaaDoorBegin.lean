/- The walk of begin. -/
import Derived.Test.YtcalmojhdpagoaaDoorKeep2
import Derived.Deep.RegionHeld3
import Derived.Deep.DrawnRows
import Derived.Deep.DeepCutAuto
import Derived.Deep.RegionLaw
namespace Go.Proofs.YtcalmojhdpagoaaDoor
set_option linter.unusedVariables false
open Go.RowKit
attribute [local go_sem ↓] Go.wp_at_zero Go.wp_at_succ

/-- The state lies there, what must stay has stayed, and the event's own variable holds it. -/
def Became (B B0 gc gm : Nat) (st : St) (w w' : World) : Prop := ∃ allv opv vs, TS w' B gc gm st allv opv vs ∧ Kept B0 w w'
def Mid (w0 : World) (B B0 gc gm : Nat) (e : Ev) (st : St) (w : World) : Prop :=
  ∃ allv opv vs, TS w B gc gm st allv opv vs ∧ Kept B0 w0 w ∧ Row w w0.heap.size 33 e.cells ∧ w0.heap.size + 1 ≤ w.heap.size

/-- Behind the append at a name's list: what is there for the store, and what the store leaves. -/
theorem at_ways {v : Value} {g n cap H : Nat} (h : v.ownBlock = some g ∨ g = H) : (Value.slice (some ⟨g, 0, none⟩) n cap).ownBlock = none ∨ (Value.slice (some ⟨g, 0, none⟩) n cap).ownBlock = v.ownBlock ∨ ∃ g', (Value.slice (some ⟨g, 0, none⟩) n cap).ownBlock = some g' ∧ H ≤ g' := by
  rcases h with h | h
  · exact .inr (.inl h.symm)
  · exact .inr (.inr ⟨g, rfl, by omega⟩)
theorem store_step {X W3 : World} {B B0 gc gm : Nat} {st : St} {allv opv v v' : Value} {vs : List Value} {j : Nat} {n : Key} {l l' : List Nat} (h : TS X B gc gm st allv opv vs) (hB0 : B0 ≤ gm) (hBB : B0 ≤ B)
    (hv : vs[j]? = some v) (hx : st.bg[j]? = some (n, l)) (hg : X.grownBy W3 v.ownBlock) (hown : W3.ownsRow B 3 1 v' l'.length (nats l')) (hat : v'.ownBlock = none ∨ v'.ownBlock = v.ownBlock ∨ ∃ g, v'.ownBlock = some g ∧ X.heap.size ≤ g) :
    (Instr.entryStore 36 (.map (some gm)) (.int .i64 j) v').run Tryd.prog W3 = .ok () (setMap W3 gm (st.bg.map (·.1)) (vs.set j v')) ∧ Row W3 gc 39 [allv, opv, .map (some gm)] ∧
    TS (setMap W3 gm (st.bg.map (·.1)) (vs.set j v')) B gc gm { st with bg := st.bg.set j (n, l') } allv opv (vs.set j v') ∧ Kept B0 X (setMap W3 gm (st.bg.map (·.1)) (vs.set j v')) ∧ Kept B0 X W3 := by
  have hvo := h.each j v _ hv hx
  have hm3 : HasMap W3 gm (st.bg.map (·.1)) vs := h.map.kept (hg.block gm h.map.lt (own_map_ne hvo h.map))
  have hk : Kept B0 X W3 := (Kept.refl _ _).grown hvo (.inl rfl) hg hBB h.low.2.2.2
  refine ⟨entry_store hm3 ?_ v', h.row.grown hg (own_row_ne hvo h.row (by decide)), h.store hv hx hg hown hat, hk.setMap hm3 hB0 _ _, hk⟩
  have := (List.getElem?_eq_some_iff.1 hx).1
  simpa using this

/-- Behind the append at the open ones: what is there for the store, and what the store leaves. -/
theorem open_step {X W3 : World} {B B0 gc gm : Nat} {st : St} {allv opv opv' : Value} {vs : List Value} {l' : List Nat} (h : TS X B gc gm st allv opv vs) (hB0 : B0 ≤ gc) (hBB : B0 ≤ B)
    (hg : X.grownBy W3 opv.ownBlock) (hown : W3.ownsRow B 3 1 opv' l'.length (nats l')) (hat : opv'.ownBlock = none ∨ opv'.ownBlock = opv.ownBlock ∨ ∃ g, opv'.ownBlock = some g ∧ X.heap.size ≤ g) :
    W3.cell? ⟨gc, 1, none⟩ = some opv ∧ W3.frozen? ⟨gc, 1, none⟩ = false ∧ TS (W3.setCell ⟨gc, 1, none⟩ opv') B gc gm { st with op := l' } allv opv' vs ∧ Kept B0 X (W3.setCell ⟨gc, 1, none⟩ opv') := by
  have hr : Row W3 gc 39 [allv, opv, .map (some gm)] := h.row.grown hg (own_row_ne h.opn h.row (by decide))
  have hk : Kept B0 X W3 := (Kept.refl _ _).grown h.opn (.inl rfl) hg hBB h.low.2.2.2
  exact ⟨hr.cell 1, hr.free 1, h.storeOpen hg hown hat, hk.setCell hr (.inr (.inr rfl)) hB0 _⟩
theorem open_row {X W3 : World} {B gc gm : Nat} {st : St} {allv opv : Value} {vs : List Value} (h : TS X B gc gm st allv opv vs) (hg : X.grownBy W3 opv.ownBlock) : W3.cell? ⟨gc, 0, none⟩ = some allv :=
  (h.row.grown hg (own_row_ne h.opn h.row (by decide))).cell 0
theorem all_row {X W3 : World} {B gc gm : Nat} {st : St} {allv opv : Value} {vs : List Value} (h : TS X B gc gm st allv opv vs) (hg : X.grownBy W3 allv.ownBlock) : W3.cell? ⟨gc, 1, none⟩ = some opv :=
  (h.row.grown hg (own_row_ne h.all h.row (by decide))).cell 1
theorem all_step {X W3 : World} {B B0 gc gm : Nat} {st : St} {allv opv allv' : Value} {vs : List Value} {l' : List Rec} (h : TS X B gc gm st allv opv vs) (hB0 : B0 ≤ gc) (hBB : B0 ≤ B)
    (hg : X.grownBy W3 allv.ownBlock) (hown : W3.ownsRow B 46 6 allv' l'.length (flatR l')) :
    W3.cell? ⟨gc, 0, none⟩ = some allv ∧ W3.frozen? ⟨gc, 0, none⟩ = false ∧ TS (W3.setCell ⟨gc, 0, none⟩ allv') B gc gm { st with all := l' } allv' opv vs ∧ Kept B0 X (W3.setCell ⟨gc, 0, none⟩ allv') := by
  have hr : Row W3 gc 39 [allv, opv, .map (some gm)] := h.row.grown hg (own_row_ne h.all h.row (by decide))
  have hk : Kept B0 X W3 := (Kept.refl _ _).grown h.all (.inr (.inl rfl)) hg hBB h.low.2.2.2
  exact ⟨hr.cell 0, hr.free 0, h.storeAll hg hown, hk.setCell hr (.inr (.inr rfl)) hB0 _⟩

set_option maxHeartbeats 2000000 in
theorem begin_any (w : World) (B B0 gc gm : Nat) (st : St) (allv opv : Value) (vs : List Value) (e : Ev) (h : TS w B gc gm st allv opv vs) (hB0 : B0 ≤ gm ∧ B0 ≤ gc) (hn : st.all.length ≤ 200000) (ho : st.op.length ≤ 200000) (hbl : ∀ l ∈ st.bg, l.2.length ≤ 200000) :
    Calls Tryd.prog 16 #[.pointer (some ⟨gc, 0, none⟩), .agg #[.int .i64 e.k, .int .i64 e.p, .string e.s]] w fun en w' => en = .returned (.tuple #[]) ∧ Became B B0 gc gm (st.begin e) w w' := by
  obtain ⟨i3, hi3, hz3, hs3, hy3⟩ := info_parts info3
  obtain ⟨i46, hi46, hz46, hs46, hy46⟩ := info_parts info46
  obtain ⟨Aa, caa, rfl⟩ := own_shape h.all
  obtain ⟨Ao, cao, rfl⟩ := own_shape h.opn
  have c0 : w.cell? ⟨gc, 0, none⟩ = some (.slice Aa st.all.length caa) := h.row.cell 0
  have c2 : w.cell? ⟨gc, 2, none⟩ = some (.map (some gm)) := h.row.cell 2
  have n0 := World.new_ne w ⟨gc, 0, none⟩ c0
  have n2 := World.new_ne w ⟨gc, 2, none⟩ c2
  have hlt : gc < w.heap.size := h.row.lt
  have hBB : B0 ≤ B := by have := h.low; omega
  -- the world when the new entry is asked for
  obtain ⟨X, hX⟩ : ∃ X, X = (((w.alloc (.cells #[.int .i64 e.k, .int .i64 e.p, .string e.s] 33)).alloc (.cells #[.int .i64 e.p, .string e.s] 54)).alloc (.cells #[.int .i64 (st.all.length : Int)] 3)).drew := ⟨_, rfl⟩
  have hTX : TS X B gc gm st (.slice Aa st.all.length caa) (.slice Ao st.op.length cao) vs := by rw [hX]; exact (((h.alloc _).alloc _).alloc _).drew
  have hKX : Kept B0 w X := by
    have := h.low
    rw [hX]; exact (((((Kept.refl _ _).alloc (by omega) _).alloc (by simp; omega) _).alloc (by simp; omega) _).drew)
  have hEX : Row X w.heap.size 33 e.cells := by rw [hX]; exact (((Row.made w 33 e.cells).alloc _).alloc _).drew
  have hNX : Row X (w.heap.size + 2) 3 [.int .i64 (st.all.length : Int)] := by
    have := Row.made ((w.alloc (.cells #[.int .i64 e.k, .int .i64 e.p, .string e.s] 33)).alloc (.cells #[.int .i64 e.p, .string e.s] 54)) 3 [.int .i64 (st.all.length : Int)]
    have e2 : w.heap.size + 1 + 1 = w.heap.size + 2 := rfl
    rw [hX]
    simp only [World.size_alloc, e2] at this
    exact this.drew
  have hKR : Row X (w.heap.size + 1) 54 [.int .i64 e.p, .string e.s] := by
    have := Row.made (w.alloc (.cells #[.int .i64 e.k, .int .i64 e.p, .string e.s] 33)) 54 [.int .i64 e.p, .string e.s]
    rw [hX]
    simp only [World.size_alloc] at this
    exact (this.alloc _).drew
  have hSX : X.heap.size = w.heap.size + 3 := by rw [hX]; simp
  have x0 : X.cell? ⟨gc, 0, none⟩ = some (.slice Aa st.all.length caa) := hTX.row.cell 0
  have x2 : X.cell? ⟨gc, 2, none⟩ = some (.map (some gm)) := hTX.row.cell 2
  have x3 : X.cell? ⟨w.heap.size + 1, 0, none⟩ = some (.int .i64 e.p) := hKR.cell 0
  have x4 : X.cell? ⟨w.heap.size + 1, 1, none⟩ = some (.string e.s) := hKR.cell 1
  rw [hX] at x0 x2 x3 x4
  -- what the map says
  have hways : ∃ (j : Nat) (l : List Nat) (Av : Option Addr) (cav : Nat) (X2 : World) (bg2 : List (Key × List Nat)) (vs2 : List Value),
      (Instr.mapEntry 36 (.map (some gm)) (.agg #[.int .i64 e.p, .string e.s])).run Tryd.prog X = .ok (.tuple #[.slice Av l.length cav, .int .i64 j]) X2 ∧
      TS X2 B gc gm { st with bg := bg2 } (.slice Aa st.all.length caa) (.slice Ao st.op.length cao) vs2 ∧ Kept B0 X X2 ∧ X2.heap.size = X.heap.size ∧ Row X2 (w.heap.size + 2) 3 [.int .i64 (st.all.length : Int)] ∧
      vs2[j]? = some (.slice Av l.length cav) ∧ bg2[j]? = some (e.key, l) ∧ l = getK st.bg e.key ∧ bg2.set j (e.key, l ++ [st.all.length]) = putK st.bg e.key (getK st.bg e.key ++ [st.all.length]) ∧ l.length ≤ 200000 := by
    cases hidx : idxK (st.bg.map (·.1)) e.key with
    | some j =>
      have hme := entry_old hTX.map e.p e.s hidx
      obtain ⟨hput, l, hbj, hget⟩ := putK_at (getK st.bg e.key ++ [st.all.length]) hidx
      have hjl : j < vs.length := by
        have h1 : st.bg.length = vs.length := by simpa using h.map.1
        have := (List.getElem?_eq_some_iff.1 hbj).1
        omega
      obtain ⟨v, hv⟩ : ∃ v, vs[j]? = some v := ⟨_, List.getElem?_eq_getElem hjl⟩
      rw [show vs.getD j undef = v by simp [List.getD, hv]] at hme
      obtain ⟨Av, cav, rfl⟩ := own_shape (hTX.each j v _ hv hbj)
      exact ⟨j, l, Av, cav, X, st.bg, vs, hme, hTX, Kept.refl _ _, rfl, hNX, hv, hbj, hget.symm, by rw [hput, hget], hbl _ (List.mem_of_getElem? hbj)⟩
    | none =>
      have hme := entry_new hTX.map e.p e.s hidx
      obtain ⟨hput, hget⟩ := putK_new (getK st.bg e.key ++ [st.all.length]) hidx
      have hl : vs.length = st.bg.length := by simpa using h.map.1.symm
      rw [List.length_map] at hme
      have hte := hTX.entry (e.p, e.s)
      refine ⟨st.bg.length, [], none, 0, _, st.bg ++ [((e.p, e.s), [])], vs ++ [.slice none 0 0], hme, hte, (Kept.refl _ _).setMap hTX.map hB0.1 _ _, setMap_size _ _ _ _, row_setMap hNX hTX.map _ _, by rw [← hl]; simp, by simp [Ev.key], hget.symm, ?_, by simp⟩
      rw [hput, hget]
      simp
  obtain ⟨j, l, Av, cav, X2, bg2, vs2, hme, hT2, hK2, hS2, hN2, hv, hbj, hget, hput, hll⟩ := hways
  rw [hX] at hme
  have hov := hT2.each j _ _ hv hbj
  dsimp only at hov
  have hKR2 := hK2.row hKR (by decide) (by decide) (by decide)
  have v0 : X2.cell? ⟨gc, 0, none⟩ = some (.slice Aa st.all.length caa) := hT2.row.cell 0
  have v2 : X2.cell? ⟨gc, 2, none⟩ = some (.map (some gm)) := hT2.row.cell 2
  have v3 : X2.cell? ⟨w.heap.size + 1, 0, none⟩ = some (.int .i64 e.p) := hKR2.cell 0
  have v4 : X2.cell? ⟨w.heap.size + 1, 1, none⟩ = some (.string e.s) := hKR2.cell 1
  have hnews : ∀ (j : Nat) u, [Value.int .i64 (st.all.length : Int)][j]? = some u → X2.cell? ((⟨w.heap.size + 2, 0, none⟩ : Addr).add j) = some u := fun j u hu => by rw [Addr.add_lit, Nat.zero_add, hN2.cell]; exact hu
  have hBX : B ≤ X2.heap.size := hT2.low.2.2.2
  have HT2 := Lib.hid hT2
  have HK2 := Lib.hid (hKX.trans hK2)
  have HEX := Lib.hid (hK2.row hEX (by decide) (by decide) (by decide))
  have HS2 := Lib.hid (show w.heap.size + 3 ≤ X2.heap.size by omega)
  have HOV := Lib.hid hov
  have HKR := Lib.hid hKR2
  have HP := Lib.hid hput
  have HG := Lib.hid hget
  have HV := Lib.hid hv
  have HBJ := Lib.hid hbj
  have HN := Lib.hid hnews
  clear hTX hKX hEX hNX hKR hSX hX hT2 hK2 hS2 hN2 hov hput hget hv hbj h hbl hKR2 hnews
  clear X
  go_enter Tryd.func16, Tryd.ntmps16
  go_upto_region 2 with fail
  go_cut [] (fun wx => Mid w B B0 gc gm e { st with bg := putK st.bg e.key (getK st.bg e.key ++ [st.all.length]) } wx)
  case first =>
    go_region_held3 (fun w' => w'.cell? ⟨gc, 0, none⟩ = some (.slice Aa st.all.length caa) ∧ w'.cell? ⟨gc, 2, none⟩ = some (.map (some gm)) ∧ w'.cell? ⟨w.heap.size + 1, 0, none⟩ = some (.int .i64 e.p) ∧ w'.cell? ⟨w.heap.size + 1, 1, none⟩ = some (.string e.s))
      (first | go_keep | exact ⟨x0, x2, x3, x4⟩ | exact ⟨v0, v2, v3, v4⟩ | exact ⟨y0, y2, y3, y4⟩ | exact ⟨q0, q2, q3, q4⟩)
      (first | (refine step_append_lies _ (by rfl) (.tmp 15) (.tmp 21) 27 (by rfl) B 3 i3 (.int .i64 0) 1 8 Tryd.underlying27 hi3 hz3 hs3 hy3 (by rfl) (by omega) (.slice Av l.length cav) l.length (nats l) (by rfl) HOV.out ⟨w.heap.size + 2, 0, none⟩ 1 1 [.int .i64 (st.all.length : Int)] (by rfl) (by rfl) HN.out (ints_oneCell .i64 [(st.all.length : Int)]) (by omega) (by unfold maxLen; omega) (by omega) hBX _ rfl ?_; intro g cap W3 hown3 hgrow3 hat3 hlt3; have hst := store_step HT2.out hB0.1 hBB HV.out HBJ.out hgrow3 (l' := l ++ [st.all.length]) (by rw [List.length_append, nats_append]; exact hown3) (at_ways hat3); have hes := hst.1; have hy := hst.2.1; have hz := HKR.out; have y0 := hy.cell 0; have y2 := hy.cell 2; have y3 := (hst.2.2.2.2.row hz (by decide) (by decide) (by decide)).cell 0; have y4 := (hst.2.2.2.2.row hz (by decide) (by decide) (by decide)).cell 1; have q0 := hst.2.2.1.row.cell 0; have q2 := hst.2.2.1.row.cell 2; have q3 := (hst.2.2.2.1.row hz (by decide) (by decide) (by decide)).cell 0; have q4 := (hst.2.2.2.1.row hz (by decide) (by decide) (by decide)).cell 1; have HST := Lib.hid hst; clear hst hy hz hown3 hgrow3 hat3; simp at y0 y2 y3 y4 q0 q2 q3 q4))
    go_wp2_with fail
    go_meet
    case rel =>
      have hst := HST.out
      have hk := hst.2.2.2.1
      have hT := hst.2.2.1
      simp only [HP.out] at hT
      exact ⟨_, _, _, hT, HK2.out.trans hk, hk.row HEX.out (by decide) (by decide) (by decide), Nat.le_trans (by have := HS2.out; omega) hk.size⟩
  case rest =>
    clear n0 n2 c0 c2 x0 x2 x3 x4 hme hBX HT2 HK2 HEX HS2 HOV HKR HP HG HV HBJ HN v0 v2 v3 v4
    obtain ⟨allv2, opv2, vs3, hT, hK, hE, hS⟩ := hcut
    obtain ⟨Aa2, ca2, rfl⟩ := own_shape hT.all
    obtain ⟨Ao2, co2, rfl⟩ := own_shape hT.opn
    dsimp only at hT
    have d0 : wc.cell? ⟨gc, 0, none⟩ = some (.slice Aa2 st.all.length ca2) := hT.row.cell 0
    have d1 : wc.cell? ⟨gc, 1, none⟩ = some (.slice Ao2 st.op.length co2) := hT.row.cell 1
    have HD0 : Hid (∀ o, (wc.alloc o).drew.cell? ⟨gc, 0, none⟩ = some (.slice Aa2 st.all.length ca2)) := fun o => (hT.row.alloc o).cell 0
    have HD1 : Hid (∀ o, (wc.alloc o).cell? ⟨gc, 1, none⟩ = some (.slice Ao2 st.op.length co2)) := fun o => (hT.row.alloc o).cell 1
    obtain ⟨Y, hY⟩ : ∃ Y, Y = (wc.alloc (.cells #[.int .i64 (st.all.length : Int)] 3)).drew := ⟨_, rfl⟩
    have hTY : TS Y B gc gm { st with bg := putK st.bg e.key (getK st.bg e.key ++ [st.all.length]) } (.slice Aa2 st.all.length ca2) (.slice Ao2 st.op.length co2) vs3 := by rw [hY]; exact (hT.alloc _).drew
    have hKY : Kept B0 w Y := by
      have := hT.low
      rw [hY]; exact (hK.alloc (by omega) _).drew
    have hEY : Row Y w.heap.size 33 e.cells := by rw [hY]; exact (hE.alloc _).drew
    have hSY : w.heap.size + 1 ≤ Y.heap.size := by rw [hY]; simp; omega
    have hNY : Row Y wc.heap.size 3 [.int .i64 (st.all.length : Int)] := by rw [hY]; exact (Row.made wc 3 [.int .i64 (st.all.length : Int)]).drew
    have hnews : ∀ (j : Nat) u, [Value.int .i64 (st.all.length : Int)][j]? = some u → Y.cell? ((⟨wc.heap.size, 0, none⟩ : Addr).add j) = some u := fun j u hu => by rw [Addr.add_lit, Nat.zero_add, hNY.cell]; exact hu
    have hBY : B ≤ Y.heap.size := hTY.low.2.2.2
    have hov := hTY.opn
    dsimp only at hov
    have HOV := Lib.hid hov
    have HTY := Lib.hid hTY
    have HKY := Lib.hid hKY
    have HEY := Lib.hid hEY
    have HSY := Lib.hid hSY
    have HN := Lib.hid hnews
    have HYe := Lib.hid hY
    rw [hY] at hov hnews hBY
    have HOV := Lib.hid hov
    have HN := Lib.hid hnews
    have HBY := Lib.hid hBY
    clear hT hK hE hS hTY hKY hEY hSY hNY hnews hBY hov hY
    go_upto_region 3 with fail
    go_cut [] (fun wx => Mid w B B0 gc gm e { st with op := st.op ++ [st.all.length], bg := putK st.bg e.key (getK st.bg e.key ++ [st.all.length]) } wx)
    case first =>
      have e0 : ∀ o, (wc.alloc o).cell? ⟨gc, 1, none⟩ = some (.slice Ao2 st.op.length co2) := HD1.out
      have d0' := d0
      go_region_law ((refine step_append_lies _ (by rfl) (.tmp 29) (.tmp 35) 27 (by rfl) B 3 i3 (.int .i64 0) 1 8 Tryd.underlying27 hi3 hz3 hs3 hy3 (by rfl) (by omega) (.slice Ao2 st.op.length co2) st.op.length (nats st.op) (by rfl) HOV.out ⟨wc.heap.size, 0, none⟩ 1 1 [.int .i64 (st.all.length : Int)] (by rfl) (by rfl) HN.out (ints_oneCell .i64 [(st.all.length : Int)]) (by omega) (by unfold maxLen; omega) (by omega) HBY.out _ rfl ?_; intro g cap W3 hown3 hgrow3 hat3 hlt3; rw [← HYe.out] at hgrow3 hat3; have hst := open_step HTY.out hB0.2 hBB hgrow3 (l' := st.op ++ [st.all.length]) (by rw [List.length_append, nats_append]; exact hown3) (at_ways hat3); have hy := hst.1; have hf := hst.2.1; have hst0 := hst.2.2.1.row.cell 0; simp at hst0; have r0 := open_row HTY.out hgrow3; have HST := Lib.hid hst; clear hst hown3 hgrow3 hat3))
      all_goals
        go_wp2_with fail
        go_meet
        have hst := HST.out
        exact ⟨_, _, _, hst.2.2.1, HKY.out.trans hst.2.2.2, hst.2.2.2.row HEY.out (by decide) (by decide) (by decide), Nat.le_trans HSY.out hst.2.2.2.size⟩
    case rest =>
      clear HOV HTY HKY HEY HSY HN HYe HBY HD0 HD1 d0 d1
      obtain ⟨allv4, opv4, vs4, hT, hK, hE, hS⟩ := hcut
      obtain ⟨Aa4, ca4, rfl⟩ := own_shape hT.all
      obtain ⟨Ao4, co4, rfl⟩ := own_shape hT.opn
      dsimp only at hT
      have HD0 : Hid (∀ o, (wc.alloc o).cell? ⟨gc, 0, none⟩ = some (.slice Aa4 st.all.length ca4)) := fun o => (hT.row.alloc o).cell 0
      have HD1 : Hid (∀ o, (wc.alloc o).drew.cell? ⟨gc, 1, none⟩ = some (.slice Ao4 (st.op.length + 1) co4)) := fun o => by have := (hT.row.alloc o).cell 1; simpa using this
      have HF : Hid ((∀ o, (wc.alloc o).drew.cell? ⟨w.heap.size, 0, none⟩ = some (.int .i64 e.k)) ∧ (∀ o, (wc.alloc o).drew.cell? ⟨w.heap.size, 1, none⟩ = some (.int .i64 e.p)) ∧ ∀ o, (wc.alloc o).drew.cell? ⟨w.heap.size, 2, none⟩ = some (.string e.s)) := ⟨fun o => (hE.alloc o).cell 0, fun o => (hE.alloc o).cell 1, fun o => (hE.alloc o).cell 2⟩
      have d0 : wc.cell? ⟨gc, 0, none⟩ = some (.slice Aa4 st.all.length ca4) := hT.row.cell 0
      have d1 : wc.cell? ⟨gc, 1, none⟩ = some (.slice Ao4 (st.op ++ [st.all.length]).length co4) := hT.row.cell 1
      have hlen : (st.op ++ [st.all.length]).length = st.op.length + 1 := by simp
      rw [hlen] at d1
      have f0 : wc.cell? ⟨w.heap.size, 0, none⟩ = some (.int .i64 e.k) := hE.cell 0
      have f1 : wc.cell? ⟨w.heap.size, 1, none⟩ = some (.int .i64 e.p) := hE.cell 1
      have f2 : wc.cell? ⟨w.heap.size, 2, none⟩ = some (.string e.s) := hE.cell 2
      obtain ⟨Y, hY⟩ : ∃ Y, Y = (wc.alloc (.cells #[.int .i64 e.k, .int .i64 e.p, .string e.s, .int .i64 ((st.op.length : Int) + 1), .bool false, .bool false] 46)).drew := ⟨_, rfl⟩
      have hTY : TS Y B gc gm { st with op := st.op ++ [st.all.length], bg := putK st.bg e.key (getK st.bg e.key ++ [st.all.length]) } (.slice Aa4 st.all.length ca4) (.slice Ao4 (st.op ++ [st.all.length]).length co4) vs4 := by rw [hY]; exact (hT.alloc _).drew
      have hKY : Kept B0 w Y := by
        have := hT.low
        rw [hY]; exact (hK.alloc (by omega) _).drew
      have hEY : Row Y w.heap.size 33 e.cells := by rw [hY]; exact (hE.alloc _).drew
      have HEY := Lib.hid hEY
      have hNY : Row Y wc.heap.size 46 (newRec st e).cells := by
        have : (newRec st e).cells = [.int .i64 e.k, .int .i64 e.p, .string e.s, .int .i64 ((st.op.length : Int) + 1), .bool false, .bool false] := by
          simp [newRec, Rec.cells]
        rw [hY, this]; exact (Row.made wc 46 _).drew
      have hnews : ∀ (j : Nat) u, (newRec st e).cells[j]? = some u → Y.cell? ((⟨wc.heap.size, 0, none⟩ : Addr).add j) = some u := fun j u hu => by rw [Addr.add_lit, Nat.zero_add, hNY.cell]; exact hu
      have hBY : B ≤ Y.heap.size := hTY.low.2.2.2
      have hov := hTY.all
      dsimp only at hov
      have HOV := Lib.hid hov
      have HTY := Lib.hid hTY
      have HKY := Lib.hid hKY
      have HN := Lib.hid hnews
      have HYe := Lib.hid hY
      rw [hY] at hov hnews hBY
      have HOV := Lib.hid hov
      have HN := Lib.hid hnews
      have HBY := Lib.hid hBY
      clear hT hK hE hS hTY hKY hNY hnews hBY hov hY hlen hEY
      go_upto_region 4 with fail
      have e0 := HD0.out
      have HLEN : Hid ((newRec st e).cells.length = 1 * 6) := rfl
      go_region_law ((refine step_append_lies _ (by rfl) (.tmp 43) (.tmp 51) 37 (by rfl) B 46 i46 (.agg #[.int .i64 0, .int .i64 0, .string ⟨#[]⟩, .int .i64 0, .bool false, .bool false]) 6 48 Tryd.underlying37 hi46 hz46 hs46 hy46 (by rfl) (by omega) (.slice Aa4 st.all.length ca4) st.all.length (flatR st.all) (by rfl) HOV.out ⟨wc.heap.size, 0, none⟩ 1 1 (newRec st e).cells (by rfl) (by rfl) HN.out (by intro u hu; simp [Rec.cells] at hu; rcases hu with rfl | rfl | rfl | rfl | rfl | rfl <;> rfl) (by omega) (by unfold maxLen; omega) (by omega) HBY.out _ rfl ?_; intro g cap W3 hown3 hgrow3 hat3 hlt3; rw [← HYe.out] at hgrow3; have hst := all_step HTY.out hB0.2 hBB hgrow3 (l' := st.all ++ [newRec st e]) (by rw [List.length_append, flatR_append]; exact hown3); have hy := hst.1; have hf := hst.2.1; have r1 := all_row HTY.out hgrow3; have s1 := hst.2.2.1.row.cell 1; have hEZ := hst.2.2.2.row HEY.out (by decide) (by decide) (by decide); have hE3 := ((Kept.refl B0 _).grown HTY.out.all (.inr (.inl rfl)) hgrow3 hBB HTY.out.low.2.2.2).row HEY.out (by decide) (by decide) (by decide); have s2 := hEZ.cell 0; have s3 := hEZ.cell 1; have s4 := hEZ.cell 2; have g0 := hE3.cell 0; have g1 := hE3.cell 1; have g2 := hE3.cell 2; simp [Ev.cells] at r1 s1 s2 s3 s4 g0 g1 g2; clear hEZ hE3; have HST := Lib.hid hst; clear hst hown3 hgrow3 hat3))
      all_goals
        go_wp2_with fail
        go_end0
        have hst := HST.out
        exact ⟨rfl, _, _, _, hst.2.2.1, HKY.out.trans hst.2.2.2⟩
end Go.Proofs.YtcalmojhdpagoaaDoor
