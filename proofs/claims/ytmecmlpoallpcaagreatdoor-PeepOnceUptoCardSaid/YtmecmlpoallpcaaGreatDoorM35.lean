/- peep.shorter: the walk. (Printed by gen_shc.py.) -/
import Derived.Test.YtmecmlpoallpcaaGreatDoorM34
set_option linter.unusedSimpArgs false
namespace Go.Proofs.YtmecmlpoallpcaaGreatDoor
set_option linter.unusedVariables false
open Go.RowKit Go.Proofs.PeepPlain

theorem marks_length (l : List Ins) : (marks l).length = l.length := by simp [marks]
theorem mk_fold {w0 w : World} {B0 g c gm go : Nat} {l : List Ins} (hc : InsRow w g c l) (hm : Row w gm 4 (boolC (marks l))) (ho : Row w go 4 (boolC (List.replicate l.length false))) (hb : Below B0 w0 w) (h1 : B0 ≤ g) (h2 : B0 ≤ gm) (h3 : B0 ≤ go) (n1 : g ≠ gm) (n2 : g ≠ go) (n3 : gm ≠ go) :
    St w0 B0 (w.heap.size + 1) w.heap.size g c gm go (fold0 l (marks l)) (w.alloc (.cells #[.slice (some ⟨g, 0, none⟩) l.length c, .slice (some ⟨gm, 0, none⟩) l.length l.length, .slice (some ⟨go, 0, none⟩) l.length l.length, .slice none 0 0] 93)) := by
  have a1 := hc.lt
  have a2 := hm.lt
  have a3 := ho.lt
  have hs : (w.alloc (.cells #[.slice (some ⟨g, 0, none⟩) l.length c, .slice (some ⟨gm, 0, none⟩) l.length l.length, .slice (some ⟨go, 0, none⟩) l.length l.length, .slice none 0 0] 93)).heap.size = w.heap.size + 1 := by show (w.heap.push _).size = _; rw [Array.size_push]
  refine ⟨⟨.slice none 0 0, Row.made w 93 [.slice (some ⟨g, 0, none⟩) l.length c, .slice (some ⟨gm, 0, none⟩) l.length l.length, .slice (some ⟨go, 0, none⟩) l.length l.length, .slice none 0 0], hc.alloc _, hm.alloc _, ho.alloc _, OwnI.nil _ _, marks_length l, by simp [fold0], fun k hk => by simp [fold0] at hk, by simp [fold0], ⟨by omega, by omega, by omega, by omega, by omega⟩, ⟨by omega, by omega, by omega, n1, n2, n3⟩⟩, hb.alloc (by omega) _, ⟨by omega, h1, h2, h3, by omega⟩⟩
theorem St.push {w0 w w' : World} {B0 Bk gF gl cl gm go : Nat} {v v' : Value} {S : FSt} {k : Nat} (F : FoldAt w Bk gF gl cl gm go v S) (hb : Below B0 w0 w) (hlow : B0 ≤ gF ∧ B0 ≤ gl ∧ B0 ≤ gm ∧ B0 ≤ go ∧ B0 ≤ Bk)
    (ho : OwnI Bk w' v' (keptI S.ks ++ [((k : Nat) : Int)])) (hbk : Below Bk w w') (hk : k < S.l.length) (hfew : S.ks.length + 1 ≤ S.l.length) :
    St w0 B0 Bk gF gl cl gm go ⟨S.l, S.mark, S.out, k :: S.ks⟩ (w'.setCell ⟨gF, 3, none⟩ v') := by
  obtain ⟨n1, n2, n3, n4, n5, n6⟩ := F.ne
  obtain ⟨f1, f2, f3, f4, f5⟩ := F.fl
  have hfar : ∀ b, b ≠ gF → (w'.setCell ⟨gF, 3, none⟩ v').heap[b]? = w'.heap[b]? := fun b h => heap_setCell_other _ _ _ _ (by exact h)
  have hs : (w'.setCell ⟨gF, 3, none⟩ v').heap.size = w'.heap.size := by simp [World.setCell]
  refine ⟨⟨v', ?_, (F.code.below hbk f2).far (hfar gl (Ne.symm n1)), (hfar gm (Ne.symm n2)).trans (F.mark.below hbk f3), (hfar go (Ne.symm n3)).trans (F.out.below hbk f4), ?_, F.lenm, F.leno, fun j hj => ?_, ?_, ⟨f1, f2, f3, f4, ?_⟩, F.ne⟩, ?_, hlow⟩
  · exact (F.row.below hbk f1).set 3 v'
  · show OwnI Bk _ v' (keptI (k :: S.ks))
    rw [keptI_cons]
    exact own_same ho fun b hb2 => hfar b (by have := (ho.lt hb2).1; omega)
  · rcases List.mem_cons.1 hj with rfl | h
    · exact hk
    · exact F.ks j h
  · show (k :: S.ks).length ≤ S.l.length
    rw [List.length_cons]
    omega
  · rw [hs]
    have := hbk.size
    omega
  · exact ((hb.trans (below_low hbk hlow.2.2.2.2)).setCell hlow.1 _)
/-- How many are kept, as memory tells it. -/
def kLen (w : World) (gF : Nat) : Nat := match w.cell? ⟨gF, 3, none⟩ with
  | some v => lenOf v
  | none => 0
theorem kLen_st {w0 w : World} {B0 Bk gF gl cl gm go : Nat} {S : FSt} (h : St w0 B0 Bk gF gl cl gm go S w) : kLen w gF = S.ks.length := by
  obtain ⟨v, F⟩ := h.at_
  have hc : w.cell? ⟨gF, 3, none⟩ = some v := F.row.cell 3
  unfold kLen
  rw [hc]
  show lenOf v = _
  rw [own_len F.kept, keptI_length]
/-- Where a pass begins: code l at g, of which R is to be made. -/
structure Start (w0 : World) (R : List Ins) (g c : Nat) (l : List Ins) (w : World) : Prop where
  row : InsRow w g c l
  low : w0.heap.size ≤ g
  below : Below w0.heap.size w0 w
  wf : WF l
  each : All PI l
  len : l.length ≤ 100000
  same : shorter o0_fair l = R
def ShPost (w : World) (R : List Ins) (e : Ending) (w' : World) : Prop :=
  ∃ g c, e = .returned (.slice (some ⟨g, 0, none⟩) R.length c) ∧ InsRow w' g c R ∧ w.heap.size ≤ g ∧ Below w.heap.size w w'
theorem wp_scope_from {P : Program} {a : Act} {w : World} {Q : Exit → Act → World → Prop} {c rest : Code} (l : Nat) (J : Act → World → Prop) (μ : Act → World → Nat) (hf : findLabel c l = some (.seq .skip rest))
    (first : (∀ a w, J a w → rest.wp P (Exit.jump l J Q) a w) → c.wp P (Exit.jump l J Q) a w)
    (pass : ∀ a w, J a w → rest.wp P (Exit.jump l (fun a' w' => J a' w' ∧ μ a' w' < μ a w) Q) a w) : (Code.scope c).wp P Q a w :=
  wp_scope_jumps l J μ hf (first fun a w h => Code.wp_mono (fun e a' w' hq => by
    cases e <;> first | exact hq | exact ⟨hq.1, hq.2.1⟩) (pass a w h)) (fun a w h => wp_seq (wp_skip (pass a w h)))
theorem mk_foldA {w0 w5 w6 : World} {g c : Nat} {l : List Ins} (hr : InsRow w5 g c l) (hb : Below w0.heap.size w0 w5) (hg : w0.heap.size ≤ g) (hm : Row w6 w5.drew.heap.size 4 (boolC (marks l))) (b6 : Below w5.drew.heap.size w5.drew w6) :
    St w0 w0.heap.size (w6.heap.size + 1 + 1) (w6.heap.size + 1) g c w5.heap.size w6.heap.size (fold0 l (marks l)) ((w6.alloc (.cells (boolC (List.replicate l.length false)).toArray 4)).alloc (.cells #[.slice (some ⟨g, 0, none⟩) l.length c, .slice (some ⟨w5.heap.size, 0, none⟩) l.length l.length, .slice (some ⟨w6.heap.size, 0, none⟩) l.length l.length, .slice none 0 0] 93)) := by
  have hs : (w6.alloc (.cells (boolC (List.replicate l.length false)).toArray 4)).heap.size = w6.heap.size + 1 := by show (w6.heap.push _).size = _; rw [Array.size_push]
  have h1 := hr.lt
  have h2 : w5.heap.size < w6.heap.size := hm.lt
  have h3 := hb.size
  have hm2 : Row w6 w5.heap.size 4 (boolC (marks l)) := hm
  have hr6 : InsRow w6 g c l := (hr.old (below_drew (Below.refl _ _))).below b6 h1
  have hb6 : Below w0.heap.size w0 w6 := below_more (below_drew hb) b6 h3
  have := mk_fold (w := w6.alloc (.cells (boolC (List.replicate l.length false)).toArray 4)) (hr6.alloc _) (hm2.alloc _) (Row.made w6 4 _) (hb6.alloc (by omega) _) hg h3 (by omega) (by omega) (by omega) (by omega)
  rw [hs] at this
  exact this
theorem mk_foldB {w0 w5 w6 : World} {g c : Nat} {l : List Ins} (hr : InsRow w5 g c l) (hb : Below w0.heap.size w0 w5) (hg : w0.heap.size ≤ g) (hm : Row w6 (w5.alloc (.cells (boolC (List.replicate l.length false)).toArray 4)).drew.heap.size 4 (boolC (marks l))) (b6 : Below (w5.alloc (.cells (boolC (List.replicate l.length false)).toArray 4)).drew.heap.size (w5.alloc (.cells (boolC (List.replicate l.length false)).toArray 4)).drew w6) :
    St w0 w0.heap.size (w6.heap.size + 1) w6.heap.size g c (w5.heap.size + 1) w5.heap.size (fold0 l (marks l)) (w6.alloc (.cells #[.slice (some ⟨g, 0, none⟩) l.length c, .slice (some ⟨w5.heap.size + 1, 0, none⟩) l.length l.length, .slice (some ⟨w5.heap.size, 0, none⟩) l.length l.length, .slice none 0 0] 93)) := by
  have hs : (w5.alloc (.cells (boolC (List.replicate l.length false)).toArray 4)).drew.heap.size = w5.heap.size + 1 := by show (w5.heap.push _).size = _; rw [Array.size_push]
  have h1 := hr.lt
  have h3 := hb.size
  have ho : Row (w5.alloc (.cells (boolC (List.replicate l.length false)).toArray 4)).drew w5.heap.size 4 (boolC (List.replicate l.length false)) := Row.made w5 4 _
  rw [hs] at hm b6
  have h2 := hm.lt
  have hb5 : Below w0.heap.size w0 (w5.alloc (.cells (boolC (List.replicate l.length false)).toArray 4)).drew := below_drew (hb.alloc h3 _)
  exact mk_fold (((hr.alloc _).old (below_drew (Below.refl _ _))).below b6 (by omega)) hm (ho.below b6 (by omega)) (hb5.trans (below_low b6 (by omega))) hg (by omega) h3 (by omega) (by omega) (by omega)
theorem shorter_one {l l1 : List Ins} (h : PeepPlain.threads l = l1) (hs : Some_ l1 (idle l1)) : shorter o0_fair l = shorter o0_fair (PeepPlain.without l1 (idle l1)) := by
  subst h
  rw [shorter, dif_pos hs]
theorem shorter_two {l l1 : List Ins} (h : PeepPlain.threads l = l1) (hn : ¬ Some_ l1 (idle l1)) (hs : Some_ (folded O0 l1).l (folded O0 l1).out) : shorter o0_fair l = shorter o0_fair (PeepPlain.without (folded O0 l1).l (folded O0 l1).out) := by
  subst h
  rw [shorter, dif_neg hn, dif_pos hs]
theorem shorter_end {l l1 : List Ins} (h : PeepPlain.threads l = l1) (hn : ¬ Some_ l1 (idle l1)) (hs : ¬ Some_ (folded O0 l1).l (folded O0 l1).out) : shorter o0_fair l = (folded O0 l1).l := by
  subst h
  rw [shorter, dif_neg hn, dif_neg hs]
theorem frame_elim {motive : Act → Prop} (a : Act) (v : Value) (hs : a.tmps.size = 89) (h0 : a.tmps.getD 0 undef = v) (hd : a.defers = []) (h : ∀ u1 u2 u3 u4 u5 u6 u7 u8 u9 u10 u11 u12 u13 u14 u15 u16 u17 u18 u19 u20 u21 u22 u23 u24 u25 u26 u27 u28 u29 u30 u31 u32 u33 u34 u35 u36 u37 u38 u39 u40 u41 u42 u43 u44 u45 u46 u47 u48 u49 u50 u51 u52 u53 u54 u55 u56 u57 u58 u59 u60 u61 u62 u63 u64 u65 u66 u67 u68 u69 u70 u71 u72 u73 u74 u75 u76 u77 u78 u79 u80 u81 u82 u83 u84 u85 u86 u87 u88 : Value, motive { tmps := (v :: u1 :: u2 :: u3 :: u4 :: u5 :: u6 :: u7 :: u8 :: u9 :: u10 :: u11 :: u12 :: u13 :: u14 :: u15 :: u16 :: u17 :: u18 :: u19 :: u20 :: u21 :: u22 :: u23 :: u24 :: u25 :: u26 :: u27 :: u28 :: u29 :: u30 :: u31 :: u32 :: u33 :: u34 :: u35 :: u36 :: u37 :: u38 :: u39 :: u40 :: u41 :: u42 :: u43 :: u44 :: u45 :: u46 :: u47 :: u48 :: u49 :: u50 :: u51 :: u52 :: u53 :: u54 :: u55 :: u56 :: u57 :: u58 :: u59 :: u60 :: u61 :: u62 :: u63 :: u64 :: u65 :: u66 :: u67 :: u68 :: u69 :: u70 :: u71 :: u72 :: u73 :: u74 :: u75 :: u76 :: u77 :: u78 :: u79 :: u80 :: u81 :: u82 :: u83 :: u84 :: u85 :: u86 :: u87 :: u88 :: []).toArray, defers := [] }) : motive a := by
  obtain ⟨⟨ts⟩, ds⟩ := a
  dsimp only at hd hs
  subst hd
  have hs : ts.length = 89 := hs
  obtain _ | ⟨v0, ts⟩ := ts
  · simp at hs
  obtain _ | ⟨v1, ts⟩ := ts
  · simp at hs
  obtain _ | ⟨v2, ts⟩ := ts
  · simp at hs
  obtain _ | ⟨v3, ts⟩ := ts
  · simp at hs
  obtain _ | ⟨v4, ts⟩ := ts
  · simp at hs
  obtain _ | ⟨v5, ts⟩ := ts
  · simp at hs
  obtain _ | ⟨v6, ts⟩ := ts
  · simp at hs
  obtain _ | ⟨v7, ts⟩ := ts
  · simp at hs
  obtain _ | ⟨v8, ts⟩ := ts
  · simp at hs
  obtain _ | ⟨v9, ts⟩ := ts
  · simp at hs
  obtain _ | ⟨v10, ts⟩ := ts
  · simp at hs
  obtain _ | ⟨v11, ts⟩ := ts
  · simp at hs
  obtain _ | ⟨v12, ts⟩ := ts
  · simp at hs
  obtain _ | ⟨v13, ts⟩ := ts
  · simp at hs
  obtain _ | ⟨v14, ts⟩ := ts
  · simp at hs
  obtain _ | ⟨v15, ts⟩ := ts
  · simp at hs
  obtain _ | ⟨v16, ts⟩ := ts
  · simp at hs
  obtain _ | ⟨v17, ts⟩ := ts
  · simp at hs
  obtain _ | ⟨v18, ts⟩ := ts
  · simp at hs
  obtain _ | ⟨v19, ts⟩ := ts
  · simp at hs
  obtain _ | ⟨v20, ts⟩ := ts
  · simp at hs
  obtain _ | ⟨v21, ts⟩ := ts
  · simp at hs
  obtain _ | ⟨v22, ts⟩ := ts
  · simp at hs
  obtain _ | ⟨v23, ts⟩ := ts
  · simp at hs
  obtain _ | ⟨v24, ts⟩ := ts
  · simp at hs
  obtain _ | ⟨v25, ts⟩ := ts
  · simp at hs
  obtain _ | ⟨v26, ts⟩ := ts
  · simp at hs
  obtain _ | ⟨v27, ts⟩ := ts
  · simp at hs
  obtain _ | ⟨v28, ts⟩ := ts
  · simp at hs
  obtain _ | ⟨v29, ts⟩ := ts
  · simp at hs
  obtain _ | ⟨v30, ts⟩ := ts
  · simp at hs
  obtain _ | ⟨v31, ts⟩ := ts
  · simp at hs
  obtain _ | ⟨v32, ts⟩ := ts
  · simp at hs
  obtain _ | ⟨v33, ts⟩ := ts
  · simp at hs
  obtain _ | ⟨v34, ts⟩ := ts
  · simp at hs
  obtain _ | ⟨v35, ts⟩ := ts
  · simp at hs
  obtain _ | ⟨v36, ts⟩ := ts
  · simp at hs
  obtain _ | ⟨v37, ts⟩ := ts
  · simp at hs
  obtain _ | ⟨v38, ts⟩ := ts
  · simp at hs
  obtain _ | ⟨v39, ts⟩ := ts
  · simp at hs
  obtain _ | ⟨v40, ts⟩ := ts
  · simp at hs
  obtain _ | ⟨v41, ts⟩ := ts
  · simp at hs
  obtain _ | ⟨v42, ts⟩ := ts
  · simp at hs
  obtain _ | ⟨v43, ts⟩ := ts
  · simp at hs
  obtain _ | ⟨v44, ts⟩ := ts
  · simp at hs
  obtain _ | ⟨v45, ts⟩ := ts
  · simp at hs
  obtain _ | ⟨v46, ts⟩ := ts
  · simp at hs
  obtain _ | ⟨v47, ts⟩ := ts
  · simp at hs
  obtain _ | ⟨v48, ts⟩ := ts
  · simp at hs
  obtain _ | ⟨v49, ts⟩ := ts
  · simp at hs
  obtain _ | ⟨v50, ts⟩ := ts
  · simp at hs
  obtain _ | ⟨v51, ts⟩ := ts
  · simp at hs
  obtain _ | ⟨v52, ts⟩ := ts
  · simp at hs
  obtain _ | ⟨v53, ts⟩ := ts
  · simp at hs
  obtain _ | ⟨v54, ts⟩ := ts
  · simp at hs
  obtain _ | ⟨v55, ts⟩ := ts
  · simp at hs
  obtain _ | ⟨v56, ts⟩ := ts
  · simp at hs
  obtain _ | ⟨v57, ts⟩ := ts
  · simp at hs
  obtain _ | ⟨v58, ts⟩ := ts
  · simp at hs
  obtain _ | ⟨v59, ts⟩ := ts
  · simp at hs
  obtain _ | ⟨v60, ts⟩ := ts
  · simp at hs
  obtain _ | ⟨v61, ts⟩ := ts
  · simp at hs
  obtain _ | ⟨v62, ts⟩ := ts
  · simp at hs
  obtain _ | ⟨v63, ts⟩ := ts
  · simp at hs
  obtain _ | ⟨v64, ts⟩ := ts
  · simp at hs
  obtain _ | ⟨v65, ts⟩ := ts
  · simp at hs
  obtain _ | ⟨v66, ts⟩ := ts
  · simp at hs
  obtain _ | ⟨v67, ts⟩ := ts
  · simp at hs
  obtain _ | ⟨v68, ts⟩ := ts
  · simp at hs
  obtain _ | ⟨v69, ts⟩ := ts
  · simp at hs
  obtain _ | ⟨v70, ts⟩ := ts
  · simp at hs
  obtain _ | ⟨v71, ts⟩ := ts
  · simp at hs
  obtain _ | ⟨v72, ts⟩ := ts
  · simp at hs
  obtain _ | ⟨v73, ts⟩ := ts
  · simp at hs
  obtain _ | ⟨v74, ts⟩ := ts
  · simp at hs
  obtain _ | ⟨v75, ts⟩ := ts
  · simp at hs
  obtain _ | ⟨v76, ts⟩ := ts
  · simp at hs
  obtain _ | ⟨v77, ts⟩ := ts
  · simp at hs
  obtain _ | ⟨v78, ts⟩ := ts
  · simp at hs
  obtain _ | ⟨v79, ts⟩ := ts
  · simp at hs
  obtain _ | ⟨v80, ts⟩ := ts
  · simp at hs
  obtain _ | ⟨v81, ts⟩ := ts
  · simp at hs
  obtain _ | ⟨v82, ts⟩ := ts
  · simp at hs
  obtain _ | ⟨v83, ts⟩ := ts
  · simp at hs
  obtain _ | ⟨v84, ts⟩ := ts
  · simp at hs
  obtain _ | ⟨v85, ts⟩ := ts
  · simp at hs
  obtain _ | ⟨v86, ts⟩ := ts
  · simp at hs
  obtain _ | ⟨v87, ts⟩ := ts
  · simp at hs
  obtain _ | ⟨v88, ts⟩ := ts
  · simp at hs
  obtain _ | ⟨x, ts⟩ := ts
  · have h0 : v0 = v := h0
    subst h0
    exact h v1 v2 v3 v4 v5 v6 v7 v8 v9 v10 v11 v12 v13 v14 v15 v16 v17 v18 v19 v20 v21 v22 v23 v24 v25 v26 v27 v28 v29 v30 v31 v32 v33 v34 v35 v36 v37 v38 v39 v40 v41 v42 v43 v44 v45 v46 v47 v48 v49 v50 v51 v52 v53 v54 v55 v56 v57 v58 v59 v60 v61 v62 v63 v64 v65 v66 v67 v68 v69 v70 v71 v72 v73 v74 v75 v76 v77 v78 v79 v80 v81 v82 v83 v84 v85 v86 v87 v88
  · simp at hs
/-- The frame at the label. -/
def ShJ (w0 : World) (R : List Ins) (a : Act) (w : World) : Prop :=
  ∃ (g c : Nat) (l : List Ins), (a.tmps.size = 89 ∧ a.tmps.getD 0 undef = .slice (some ⟨g, 0, none⟩) l.length c ∧ a.defers = []) ∧ Start w0 R g c l w
set_option maxRecDepth 200000 in
set_option maxHeartbeats 8000000 in
theorem shorter_walk (l0 : List Ins) (A : Option Addr) (c0 : Nat) (w0 : World) (W : WF l0) (hA : InsAt w0 A l0) (hl : l0.length ≤ 100000) (hP : All PI l0) (hG : ∀ wx, Below w0.heap.size w0 wx → GlobP wx ∧ OwnG wx) :
    Calls Tryz.prog 26 #[.slice A l0.length c0] w0 (ShPost w0 (shorter o0_fair l0)) := by
  obtain ⟨R, hR⟩ : ∃ R, shorter o0_fair l0 = R := ⟨_, rfl⟩
  have HC := Lib.hid (clone_walk l0 A c0 w0 hA W.pos hl)
  have HS0 := Lib.hid (fun (w' : World) (g c : Nat) (h : InsRow w' g c l0) (hg : w0.heap.size ≤ g) (hb : Below w0.heap.size w0 w') => (⟨h, hg, hb, W, hP, hl, hR⟩ : Start w0 R g c l0 w'))
  have HPOS := Lib.hid W.pos
  have HG := Lib.hid hG
  rw [hR]
  clear W hA hP hR hG
  go_enter Tryz.func26, Tryz.ntmps26
  go_wp2
  refine wp_scope_from 0 (ShJ w0 R) (fun a _ => lenOf (a.tmps.getD 0 undef)) (by rfl) ?first ?pass
  case first =>
    intro hp
    go_wp2_with (go_at_call 52; refine HC.out.mono ?_; rintro en w1 ⟨v, rfl, ho, hb⟩
                 obtain ⟨g, c, rfl, hg, hr⟩ := ho.row HPOS.out
                 have ST1 := Lib.hid (HS0.out w1 g c hr hg hb)
                 clear ho hb hr)
    go_step3
    rename_i K hK
    exact hK _ _ (hp _ _ ⟨g, c, l0, ⟨rfl, rfl, rfl⟩, ST1.out⟩)
  case pass =>
    rintro a w1 ⟨g, c, l, ⟨hs1, hs2, hs3⟩, hst⟩
    rw [hs2]
    refine frame_elim (motive := fun a => Code.wp Tryz.prog _ _ a w1) a _ hs1 hs2 hs3 ?_
    clear hs1 hs2 hs3
    intro u1 u2 u3 u4 u5 u6 u7 u8 u9 u10 u11 u12 u13 u14 u15 u16 u17 u18 u19 u20 u21 u22 u23 u24 u25 u26 u27 u28 u29 u30 u31 u32 u33 u34 u35 u36 u37 u38 u39 u40 u41 u42 u43 u44 u45 u46 u47 u48 u49 u50 u51 u52 u53 u54 u55 u56 u57 u58 u59 u60 u61 u62 u63 u64 u65 u66 u67 u68 u69 u70 u71 u72 u73 u74 u75 u76 u77 u78 u79 u80 u81 u82 u83 u84 u85 u86 u87 u88
    have HST := Lib.hid hst
    clear hst HC HS0 HPOS
    obtain ⟨l1, hl1⟩ : ∃ l1, PeepPlain.threads l = l1 := ⟨_, rfl⟩
    have hlen : l1.length = l.length := by rw [← hl1]; exact threads_length l
    have W1 : WF l1 := by rw [← hl1]; exact threads_wf HST.out.wf
    have P1 : All PI l1 := by rw [← hl1]; exact threads_each o0_closed HST.out.each
    have hN : l1.length ≤ 100000 := by rw [hlen]; exact HST.out.len
    have HTH := Lib.hid (show Calls Tryz.prog 53 #[.slice (some ⟨g, 0, none⟩) l.length c] w1 fun e w' => e = .returned (.tuple #[]) ∧ InsRow w' g c l1 ∧ Below w0.heap.size w1 w' from by rw [← hl1]; exact threads_walk l g c w0.heap.size w1 HST.out.wf HST.out.row HST.out.len HST.out.low)
    have HSAME := Lib.hid (show PeepPlain.threads l = l1 from hl1)
    rw [← hlen] at HTH ⊢
    have HLEN := Lib.hid hlen
    have HW1 := Lib.hid W1
    have HP1 := Lib.hid P1
    have HRE := Lib.hid (fun (wx : World) (h : InsRow wx g c l1) => reached_walk l1 (some ⟨g, 0, none⟩) c wx W1 h.insAt hN)
    clear hl1 hlen P1
    have hpos := W1.pos
    clear W1
    go_wp2_with (first
      | (go_at_call 53; refine HTH.out.mono ?_; rintro en w2 ⟨rfl, hr, hb⟩
         have R2 := Lib.hid hr
         have B2 := Lib.hid (HST.out.below.trans hb)
         clear hr hb)
      | (go_at_call 54; refine (HRE.out _ R2.out).mono ?_; rintro en w3 ⟨rfl, ho, hb⟩
         have R3 := Lib.hid (R2.out.old hb)
         have O3 := Lib.hid ho
         have B3 := Lib.hid (below_more B2.out hb B2.out.size)
         have hz3 := ho.lt
         have hgz := R2.out.lt
         clear ho hb))
    have hlow2 : Hid (w0.heap.size ≤ w2.heap.size) := Lib.hid B2.out.size
    clear HTH HRE R2 B2
    generalize w2.heap.size = gr at O3 hz3 hgz hlow2
    have hne : g ≠ gr := by omega
    have hne2 : gr ≠ g := by omega
    have O30 : Hid (Row w3 gr 4 (boolC (idleTo l1 0))) := Lib.hid (by rw [idleTo_zero]; exact O3.out)
    go_loopw [4, 15] (fun z4 v wr => ∃ k : Nat, v = .int .i64 k ∧ k ≤ l1.length ∧ Hid (Row wr gr 4 (boolC (idleTo l1 k))) ∧ Hid (InsRow wr g c l1) ∧ Hid (Below w0.heap.size w0 wr)) (fun _ v _ => l1.length - (intOf v).toNat)
    case atStart => exact ⟨0, rfl, Nat.zero_le _, O30, R3, B3⟩
    case round =>
      clear O30 O3 R3 B3 hz3
      rename World => w4
      obtain ⟨k, rfl, hk, HO, HR, HB⟩ := hrel
      by_cases hlt : k < l1.length
      · have hbit := bool_at HO.out (k := k) (by rw [idleTo_length l1 hk]; exact hlt)
        rw [idleTo_at l1 hlt] at hbit
        have hfr := HO.out.free k
        obtain ⟨i0, i1, i2, i3, i4⟩ := HR.out.at_ hlt
        have hrl := reachL_get hlt
        have hid := (idle_is l1).2 k hlt
        have hi : (0 : Int) ≤ (k : Int) ∧ (k : Int) < (l1.length : Int) := by omega
        have hop : PeepPlain.opAt l1 k = l1[k].op := op_get hlt
        have ha := fun (h : l1[k].op = 34) => a_get hlt (HW1.out.low k hlt (by rw [hop, h]; exact jump_jumps))
        have hidl : (idle l1).getD k false = (idle l1).getD k true := (getD_bool (by rw [idle_length]; exact hlt)).symm
        generalize hx : l1[k] = x at *
        cases hb : (reachL l1).getD k false
        · rw [hb] at hbit
          have HSET := Lib.hid (idleTo_set l1 hlt (b := true) (by rw [hidl, hid]; exact .inl (fun h => by rw [hrl.2 h] at hb; cases hb)))
          clear hb hrl hid hidl hop ha hx
          go_wp2_with fail
          go_roundw
          case rel => exact ⟨k + 1, by go_num, by omega, Lib.hid (by rw [← HSET.out, boolC_set]; exact HO.out.set k _), Lib.hid (HR.out.far (heap_setCell_other _ _ _ _ (by exact hne))), Lib.hid (HB.out.setCell hlow2.out _)⟩
          case measure => simp [intOf]; omega
        · rw [hb] at hbit
          by_cases h34 : x.op = 34
          · have ha2 := ha h34
            rw [ha2] at i1
            rw [h34] at i0
            by_cases ht : aAt l1 k = k + 1
            · rw [ht] at i1
              have HSET := Lib.hid (idleTo_set l1 hlt (b := true) (by rw [hidl, hid]; exact .inr ⟨hop.trans h34, ht⟩))
              clear hb hrl hid hidl hop ha hx ha2 ht h34
              go_wp2_with fail
              go_roundw
              case rel => exact ⟨k + 1, by go_num, by omega, Lib.hid (by rw [← HSET.out, boolC_set]; exact HO.out.set k _), Lib.hid (HR.out.far (heap_setCell_other _ _ _ _ (by exact hne))), Lib.hid (HB.out.setCell hlow2.out _)⟩
              case measure => simp [intOf]; omega
            · have HSET := Lib.hid (idleTo_set l1 hlt (b := false) (by
                rw [hidl]
                refine Bool.eq_false_iff.2 (fun h => ?_)
                rcases hid.1 h with h | h
                · exact h (hrl.1 hb)
                · exact ht h.2))
              generalize aAt l1 k = t at *
              have hk1 : ((t : Int) == (k : Int) + 1) = false := beq_eq_false_iff_ne.2 (by omega)
              clear hb hrl hid hidl hop ha hx ha2 ht h34
              go_wp2_with fail
              go_roundw
              case rel => exact ⟨k + 1, by go_num, by omega, Lib.hid (by rw [← HSET.out, boolC_set]; exact HO.out.set k _), Lib.hid (HR.out.far (heap_setCell_other _ _ _ _ (by exact hne))), Lib.hid (HB.out.setCell hlow2.out _)⟩
              case measure => simp [intOf]; omega
          · have h3 : (x.op == 34) = false := beq_eq_false_iff_ne.2 h34
            have HSET := Lib.hid (idleTo_set l1 hlt (b := false) (by
              rw [hidl]
              refine Bool.eq_false_iff.2 (fun h => ?_)
              rcases hid.1 h with h | h
              · exact h (hrl.1 hb)
              · exact h34 (hop.symm.trans h.1)))
            clear hb hrl hid hidl hop ha hx h34
            go_wp2_with fail
            go_roundw
            case rel => exact ⟨k + 1, by go_num, by omega, Lib.hid (by rw [← HSET.out, boolC_set]; exact HO.out.set k _), Lib.hid (HR.out.far (heap_setCell_other _ _ _ _ (by exact hne))), Lib.hid (HB.out.setCell hlow2.out _)⟩
            case measure => simp [intOf]; omega
      · obtain rfl : k = l1.length := by omega
        rw [idleTo_all] at HO
        clear hlt hk
        have hgr : gr < w4.heap.size := HO.out.lt
        have hgg : g < w4.heap.size := HR.out.lt
        have HCT := Lib.hid (show Calls Tryz.prog 55 #[.slice (some ⟨gr, 0, none⟩) l1.length l1.length, .bool true] w4 fun e w' => e = .returned (.bool ((idle l1).any id)) ∧ w' = w4 from by have := containsb_walk (idle l1) gr l1.length w4 HO.out (by rw [idle_length]; exact hN); rw [idle_length] at this; exact this)
        have HSO := any_some (idle_length l1)
        cases hany : (idle l1).any id
        · rw [hany] at HCT
          have HNOT := Lib.hid (show ¬ Some_ l1 (idle l1) from fun h => by rw [HSO.2 h] at hany; cases hany)
          clear hany HSO
          go_wp2_with (go_at_call 55; refine HCT.out.mono ?_; rintro en w5 ⟨rfl, rfl⟩)
          have HMK := Lib.hid (fun (wx : World) (h : InsRow wx g c l1) => marks_walk l1 (some ⟨g, 0, none⟩) c wx HW1.out h.insAt hN)
          have hmk := fun wx => make_bools l1.length (by omega) wx
          go_region_held3 (fun _ => True) (first | trivial) (first
            | (go_at_call 57; (with_reducible refine (HMK.out _ ?h).mono ?_)
               case h => first | exact HR.out.old (below_drew (Below.refl _ _)) | exact (HR.out.alloc _).old (below_drew (Below.refl _ _)) | exact (HR.out.old (below_drew (Below.refl _ _))).alloc _
               rintro en w6 ⟨rfl, hm, hb⟩
               have M6 := Lib.hid hm
               have B6 := Lib.hid hb
               clear hm hb))
          all_goals
            first
            | (obtain ⟨w7, T7, e⟩ : ∃ w7, Hid (St w0 w0.heap.size (w6.heap.size + 1 + 1) (w6.heap.size + 1) g c w5.heap.size w6.heap.size (fold0 l1 (marks l1)) w7) ∧ ((w6.alloc (.cells (boolC (List.replicate l1.length false)).toArray 4)).alloc (.cells #[.slice (some ⟨g, 0, none⟩) l1.length c, .slice (some ⟨w5.heap.size, 0, none⟩) l1.length l1.length, .slice (some ⟨w6.heap.size, 0, none⟩) l1.length l1.length, .slice none 0 0] 93)) = w7 := ⟨_, Lib.hid (mk_foldA HR.out HB.out HST.out.low M6.out B6.out), rfl⟩
               rw [e]
               clear e M6 B6
               generalize w6.heap.size + 1 + 1 = Bk at T7
               generalize w6.heap.size + 1 = gF at T7 ⊢
               generalize w5.heap.size = gm at T7 ⊢
               generalize w6.heap.size = go at T7 ⊢)
            | (obtain ⟨w7, T7, e⟩ : ∃ w7, Hid (St w0 w0.heap.size (w6.heap.size + 1) w6.heap.size g c (w5.heap.size + 1) w5.heap.size (fold0 l1 (marks l1)) w7) ∧ (w6.alloc (.cells #[.slice (some ⟨g, 0, none⟩) l1.length c, .slice (some ⟨w5.heap.size + 1, 0, none⟩) l1.length l1.length, .slice (some ⟨w5.heap.size, 0, none⟩) l1.length l1.length, .slice none 0 0] 93)) = w7 := ⟨_, Lib.hid (mk_foldB HR.out HB.out HST.out.low M6.out B6.out), rfl⟩
               rw [e]
               clear e M6 B6
               generalize w6.heap.size + 1 = Bk at T7
               generalize w6.heap.size = gF at T7 ⊢
               generalize w5.heap.size + 1 = gm at T7 ⊢
               generalize w5.heap.size = go at T7 ⊢)
          all_goals
            clear HCT HMK hmk
            go_wp2_with fail
            go_step3
            go_wp2_with fail
            clear HR HB HO
            go_loopw [6, 60] (fun z6 v wr => ∃ k : Nat, v = .int .i64 k ∧ k ≤ l1.length ∧ Hid (St w0 w0.heap.size Bk gF g c gm go (foldTo l1 k) wr)) (fun _ v _ => l1.length - (intOf v).toNat)
            case atStart => exact ⟨0, rfl, Nat.zero_le _, T7⟩
            case round =>
              clear T7
              rename World => w8
              obtain ⟨k, rfl, hk, HT⟩ := hrel
              by_cases hlt : k < l1.length
              · obtain ⟨v0, F⟩ := HT.out.at_
                have HFLL := Lib.hid F
                have hfew : (foldTo l1 k).ks.length ≤ 100000 := Nat.le_trans (foldTo_len l1 k) (by omega)
                have HSL := Lib.hid (foldTo_inv HP1.out k hk).1.well.len
                have HFEW2 := Lib.hid (foldTo_len l1 k)
                obtain ⟨A4, c4, hv4⟩ := F.kept.shape
                have f3 := F.row.cell 3
                have hgF : gF < w8.heap.size := F.row.lt
                have HFL := Lib.hid F.fl
                have HFR := Lib.hid F.row
                have HPI := Lib.hid (push_inv HP1.out hlt)
                have HSUC := Lib.hid (foldTo_succ l1 k)
                have hlen4 : (keptI (foldTo l1 k).ks).length ≤ 100000 := by rw [keptI_length]; exact hfew
                rw [hv4] at f3
                have HKP : Hid (OwnI Bk w8 (.slice A4 (keptI (foldTo l1 k).ks).length c4) (keptI (foldTo l1 k).ks)) := Lib.hid (hv4 ▸ F.kept)
                have HL4 := Lib.hid hlen4
                have HK100 := Lib.hid hlen4
                generalize (keptI (foldTo l1 k).ks).length = n4 at f3 hlen4 HKP HL4
                clear hv4 F hfew hlen4
                go_wp2_with (first
                  | (at_builtin; refine put_i (.tmp 67) (.tmp 69) Bk (.slice A4 n4 c4) (keptI (foldTo l1 k).ks) ((k : Nat) : Int) _ _ rfl rfl rfl HKP.out (by simp) rfl (by have := HK100.out; omega) HFL.out.2.2.2.2 ?_; intro v9 w9 ho9 hb9 _
                     have O9 := Lib.hid ho9
                     have B9 := Lib.hid hb9
                     obtain ⟨A9, c9, rfl⟩ := ho9.shape
                     have r9 := HFR.out.below hb9 HFL.out.1
                     have fr9 := r9.free 3
                     have hgF9 := r9.lt
                     have f9 := r9.cell 3
                     have HPU := Lib.hid (St.push HFLL.out HT.out.below HT.out.low ho9 hb9 (show k < (foldTo l1 k).l.length by have := HSL.out; omega) (by have := HSL.out; have := HFEW2.out; omega))
                     rw [List.length_append, List.length_singleton] at HPU
                     clear ho9 hb9 r9))
                obtain ⟨w10, T10, e⟩ : ∃ w10, Hid (St w0 w0.heap.size Bk gF g c gm go ⟨(foldTo l1 k).l, (foldTo l1 k).mark, (foldTo l1 k).out, k :: (foldTo l1 k).ks⟩ w10) ∧ w9.setCell ⟨gF, 3, none⟩ (.slice A9 ((keptI (foldTo l1 k).ks).length + 1) c9) = w10 := ⟨_, HPU, rfl⟩
                rw [e]
                clear e f3 hgF fr9 hgF9 f9
                go_loopw [75] (fun z75 wr => ∃ S' : FSt, Hid (St w0 w0.heap.size Bk gF g c gm go S' wr) ∧ Hid (Inv l1 S') ∧ Hid (foldMany O0 S' = foldTo l1 (k + 1))) (fun _ wr => kLen wr gF)
                case atStart => exact ⟨_, T10, HPI, Lib.hid HSUC.out.symm⟩
                case round =>
                  clear T10
                  rename World => w11
                  obtain ⟨S', HT, HI, HE⟩ := hrel
                  have hl5 := HI.out.well.len
                  have WS := well_wf HW1.out HI.out.well
                  have HFO := Lib.hid (folds_walk w0 w11 w0.heap.size Bk gF g c gm go S' HT.out (by rw [hl5]; exact hN) HG.out (fun i hi => (HI.out.each i hi).1) (fun i hi => (HI.out.each i hi).2) (last_branch WS))
                  have HI2 := Lib.hid (inv_folds HI.out)
                  have HKL := Lib.hid (kLen_st HT.out)
                  clear hl5 WS
                  cases hf : (folds O0 S').2
                  · rw [hf] at HFO
                    have HE2 := Lib.hid (show (folds O0 S').1 = foldTo l1 (k + 1) from by rw [← HE.out, foldMany, dif_neg (by rw [hf]; decide)])
                    clear hf
                    go_wp2_with (go_at_call 58; refine HFO.out.mono ?_; rintro en w12 ⟨rfl, ht⟩; have T12 := Lib.hid ht; clear ht HFO)
                    go_roundw
                    case rel => exact ⟨k + 1, by go_num, by omega, by rw [← HE2.out]; exact T12⟩
                    case measure => simp [intOf]; omega
                  · rw [hf] at HFO
                    have HE2 := Lib.hid (show foldMany O0 (folds O0 S').1 = foldTo l1 (k + 1) from by rw [← HE.out]; conv => rhs; rw [foldMany, dif_pos hf])
                    have HLS := Lib.hid (folds_less O0 S' hf)
                    clear hf
                    go_wp2_with (go_at_call 58; refine HFO.out.mono ?_; rintro en w12 ⟨rfl, ht⟩; have T12 := Lib.hid ht; clear ht HFO)
                    go_roundw
                    case rel => exact ⟨_, T12, HI2, HE2⟩
                    case measure => rw [HKL.out, kLen_st T12.out]; exact HLS.out
              · obtain rfl : k = l1.length := by omega
                have HIN := Lib.hid (foldTo_inv HP1.out l1.length (Nat.le_refl _)).1
                rw [foldTo_all] at HT HIN
                have hlf : (folded O0 l1).l.length = l1.length := HIN.out.well.len
                obtain ⟨f0, f1, f2⟩ := HT.out.row
                rw [hlf] at f2
                obtain ⟨z1, z2, z3, z4, _⟩ := HT.out.size
                have WS := Lib.hid (well_wf HW1.out HIN.out.well)
                obtain ⟨v0, F⟩ := HT.out.at_
                have hlo := F.leno
                have HRO := Lib.hid F.out
                have HRC := Lib.hid F.code
                have HBB := Lib.hid HT.out.below
                have HCT := Lib.hid (show Calls Tryz.prog 55 #[.slice (some ⟨go, 0, none⟩) l1.length l1.length, .bool true] w8 fun e w' => e = .returned (.bool ((folded O0 l1).out.any id)) ∧ w' = w8 from by have := containsb_walk (folded O0 l1).out go l1.length w8 HRO.out (by rw [hlo, hlf]; exact hN); rw [hlo, hlf] at this; exact this)
                have HSO := any_some hlo
                have HLF := Lib.hid hlf
                have HLO := Lib.hid hlo
                clear F hlo hlf hlt hk
                cases hany : (folded O0 l1).out.any id
                · rw [hany] at HCT
                  have HNOT2 := Lib.hid (show ¬ Some_ (folded O0 l1).l (folded O0 l1).out from fun h => by rw [HSO.2 h] at hany; cases hany)
                  have HEND := Lib.hid (show R = (folded O0 l1).l from by rw [← HST.out.same]; exact shorter_end HSAME.out HNOT.out HNOT2.out)
                  clear hany HSO
                  go_wp2_with (go_at_call 55; refine HCT.out.mono ?_; rintro en w9 ⟨rfl, rfl⟩)
                  simp only [Exit.jump]
                  go_ret
                  exact ⟨g, c, by have e : R.length = l1.length := by { rw [HEND.out, HLF.out] }; rw [e]; exact rfl, by rw [HEND.out]; exact HRC.out, HST.out.low, HBB.out⟩
                · rw [hany] at HCT
                  have HYES := Lib.hid (HSO.1 hany)
                  have HLESS := Lib.hid (without_less HYES.out)
                  have HWO := Lib.hid (show Calls Tryz.prog 56 #[.slice (some ⟨g, 0, none⟩) l1.length c, .slice (some ⟨go, 0, none⟩) l1.length l1.length] w8 fun e w' => ∃ v, e = .returned v ∧ OwnP w8.heap.size w' v (PeepPlain.without (folded O0 l1).l (folded O0 l1).out) ∧ Below w8.heap.size w8 w' from by have := without_walk (folded O0 l1).l (folded O0 l1).out (some ⟨g, 0, none⟩) c go l1.length w8 WS.out HRC.out.insAt HRO.out HLO.out (by rw [HLF.out]; exact hN); rw [HLF.out] at this; exact this)
                  have HWF := Lib.hid (without_wf WS.out (well_may HW1.out HIN.out.well))
                  have HTWO := Lib.hid (shorter_two HSAME.out HNOT.out HYES.out)
                  have HPE := Lib.hid (without_each (out := (folded O0 l1).out) o0_closed HIN.out.each)
                  clear hany HSO
                  go_wp2_with (first
                    | (go_at_call 55; refine HCT.out.mono ?_; rintro en w9 ⟨rfl, rfl⟩)
                    | (go_at_call 56; refine HWO.out.mono ?_; rintro en w10 ⟨v, rfl, ho, hb⟩
                       obtain ⟨g2, c2, rfl, hg2, hr2⟩ := ho.row HWF.out.pos
                       have STN := Lib.hid (show Start w0 R g2 c2 (PeepPlain.without (folded O0 l1).l (folded O0 l1).out) w10 from ⟨hr2, Nat.le_trans HBB.out.size hg2, below_more HBB.out hb HBB.out.size, HWF.out, HPE.out, by have := HLESS.out; have := HLF.out; omega, by rw [← HST.out.same]; exact HTWO.out.symm⟩)
                       clear ho hb hr2))
                  go_step3
                  exact ⟨rfl, ⟨g2, c2, _, ⟨rfl, rfl, rfl⟩, STN.out⟩, by show (PeepPlain.without (folded O0 l1).l (folded O0 l1).out).length < l1.length; have := HLESS.out; have := HLF.out; omega⟩
        · rw [hany] at HCT
          have HYES := Lib.hid (HSO.1 hany)
          have HWO := Lib.hid (without_walk l1 (idle l1) (some ⟨g, 0, none⟩) c gr l1.length w4 HW1.out HR.out.insAt HO.out (idle_length l1) hN)
          clear hany HSO
          go_wp2_with (first
            | (go_at_call 55; refine HCT.out.mono ?_; rintro en w5 ⟨rfl, rfl⟩)
            | (go_at_call 56; refine HWO.out.mono ?_; rintro en w6 ⟨v, rfl, ho, hb⟩
               obtain ⟨g2, c2, rfl, hg2, hr2⟩ := ho.row (without_wf HW1.out (idle_may HW1.out (idle_is _))).pos
               have HLESS := Lib.hid (without_less HYES.out)
               have STN := Lib.hid (show Start w0 R g2 c2 (PeepPlain.without l1 (idle l1)) w6 from ⟨hr2, Nat.le_trans HB.out.size hg2, below_more HB.out hb HB.out.size, without_wf HW1.out (idle_may HW1.out (idle_is _)), without_each o0_closed HP1.out, by have := HLESS.out; omega, by rw [← HST.out.same]; exact (shorter_one HSAME.out HYES.out).symm⟩)
               clear ho hb hr2))
          go_step3
          exact ⟨rfl, ⟨g2, c2, _, ⟨rfl, rfl, rfl⟩, STN.out⟩, by show (PeepPlain.without l1 (idle l1)).length < l1.length; exact HLESS.out⟩
end Go.Proofs.YtmecmlpoallpcaaGreatDoor
