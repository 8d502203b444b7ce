/- code.fits: whether the stacks fit. Condition: the code is right but for that. (Printed by gen_fitsc.py.) -/
import Derived.Test.YtmecmlpoallpcaaGreatDoorM21
import Derived.StillTailTactics
import Derived.Deep.RegionHeld3
set_option linter.all false
namespace Go.Proofs.YtmecmlpoallpcaaGreatDoor
set_option linter.unusedVariables false
open Go.RowKit Go.Proofs.PeepPlain

section
variable {Bo A V n : Nat} {keep : List Nat} {w w' : World} {R R' : Rep} {ptrs : List (Option Addr)} {given : List (Option (List Int))} {todo : List Int} {v : Value}
/-- A block that must stay was written. -/
theorem Mid.wrote (M : Mid Bo A V n keep w R ptrs given todo v) {x : Nat} (ho : Only [x] w w') (hx : x ∈ keep) : Mid Bo A V n keep w' R ptrs given todo v where
  at_ := ho.row M.at_ (by simpa using fun e => (M.kdis x hx).1 e.symm)
  len := M.len
  glen := M.glen
  pts := M.pts
  held := ⟨ho.row M.held.row (by simpa using fun e => (M.kdis x hx).2.1 e.symm), ho.own M.held.own (fun g hg => by
    have := (M.own g hg).2
    simp only [List.mem_cons, not_or] at this
    simp only [List.mem_singleton]
    rintro rfl
    exact this.2 hx), M.held.ne⟩
  nodes := M.nodes.same fun g hg => ho.block g (by
    cases hr : R g with
    | none => exact absurd hr hg
    | some t => exact M.nodes.lt hr) (by
    simp only [List.mem_singleton]
    rintro rfl
    exact hg (M.far g (by simp [hx])))
  low := Nat.le_trans M.low ho.size
  far := M.far
  own := M.own
  kdis := fun y hy => ⟨(M.kdis y hy).1, (M.kdis y hy).2.1, Nat.lt_of_lt_of_le (M.kdis y hy).2.2 ho.size⟩
  av := M.av
  pos := M.pos
theorem Mid.alloc (M : Mid Bo A V n keep w R ptrs given todo v) (o : Obj) : Mid Bo A V n (w.heap.size :: keep) (w.alloc o) R ptrs given todo v :=
  M.more (Grew.ofOnly (S := []) ((Only.refl _ _).alloc o) rfl (fun k hk => rep_none M.nodes hk)) (M.nodes.same fun g hg => row_old w o g (by
    cases hr : R g with
    | none => exact absurd hr hg
    | some t => exact M.nodes.lt hr)) (Nat.le_refl _) (by simp)
end
/-- It is handed on. -/
def HandOk (Bo A V n : Nat) (keep : List Nat) (w : World) (R : Rep) (given : List (Option (List Int))) (todo : List Int) (v : Value) (k : Nat) (s : List Int) (w' : World) : Prop :=
  ∃ p2 t2 v2, Mid Bo A V n keep w' R p2 (handA given k s) t2 v2 ∧ (∀ j, j ∈ handT given (idx todo) k ↔ j ∈ idx t2) ∧ t2.length = (handT given (idx todo) k).length ∧ Only (A :: V :: blk v) w w'
section
variable {Bo A V n : Nat} {keep : List Nat} {w w' : World} {R R' : Rep} {ptrs : List (Option Addr)} {given : List (Option (List Int))} {todo : List Int} {v : Value}
theorem hand_ok (M : Mid Bo A V n keep w R ptrs given todo v) {k c : Nat} {s : List Int} {o : Option Addr} (hk : k < n) (hg : OptPt R o (some s)) (hl : todo.length ≤ 900000) (hn : n ≤ 1000000) (hh : given.getD k none = none ∨ given.getD k none = some s) (x : Int) (hx : x = (k : Int)) :
    Calls Tryz.prog 76 #[.slice (some ⟨A, 0, none⟩) n c, .pointer (some ⟨V, 0, none⟩), .int .i64 x, .pointer o] w fun e w' => e = .returned (.bool true) ∧ HandOk Bo A V n keep w R given todo v k s w' := by
  subst hx
  obtain ⟨g, rfl, hg⟩ := hg
  refine (hand_mid M hk hg hl hn).mono ?_
  rintro e w' (⟨rfl, _, p2, t2, v2, h⟩ | ⟨_, _, u, hu, hne⟩)
  · exact ⟨rfl, p2, t2, v2, h⟩
  · rcases hh with h | h
    · rw [hu] at h; cases h
    · rw [hu] at h; exact absurd (Option.some.inj h) hne
theorem hand_bad (M : Mid Bo A V n keep w R ptrs given todo v) {k c : Nat} {s u : List Int} {o : Option Addr} (hk : k < n) (hg : OptPt R o (some s)) (hl : todo.length ≤ 900000) (hn : n ≤ 1000000) (hu : given.getD k none = some u) (hne : u ≠ s) (x : Int) (hx : x = (k : Int)) :
    Calls Tryz.prog 76 #[.slice (some ⟨A, 0, none⟩) n c, .pointer (some ⟨V, 0, none⟩), .int .i64 x, .pointer o] w fun e w' => e = .returned (.bool false) ∧ w' = w := by
  subst hx
  obtain ⟨g, rfl, hg⟩ := hg
  refine (hand_mid M hk hg hl hn).mono ?_
  rintro e w' (⟨rfl, h, _⟩ | ⟨rfl, rfl, _⟩)
  · rcases h with h | h
    · rw [hu] at h; cases h
    · rw [hu] at h; exact absurd (Option.some.inj h) hne
  · exact ⟨rfl, rfl⟩
/-- What is carried along. -/
structure Carry (w : World) (fc : List Value) (seen : List Bool) (x : Ins) (xb : Nat) (wr : World) : Prop where
  seen_ : Row wr (w.heap.size + 1 + 1) 3 (intC (seenI seen))
  box : Row wr w.heap.size 47 fc
  xr : Row wr xb 50 [.int .i64 x.op, .int .i64 x.a, .int .i64 x.b, .string x.text, .int .i64 x.pos]
  below : Below w.heap.size w wr
theorem Carry.grew {w0 wr wr' : World} {fc : List Value} {seen : List Bool} {x : Ins} {xb : Nat} (C : Carry w0 fc seen x xb wr) (M : Mid w0.heap.size A V n [xb, w0.heap.size, w0.heap.size + 1 + 1] wr R ptrs given todo v) (h : Grew R wr R' wr') : Carry w0 fc seen x xb wr' :=
  ⟨M.kept C.seen_ (by simp) h, M.kept C.box (by simp) h, M.kept C.xr (by simp) h, C.below.trans (h.below M.low M.nodes.low)⟩
theorem Carry.only {w0 wr wr' : World} {fc : List Value} {seen : List Bool} {x : Ins} {xb : Nat} (C : Carry w0 fc seen x xb wr) (M : Mid w0.heap.size A V n [xb, w0.heap.size, w0.heap.size + 1 + 1] wr R ptrs given todo v) (hA : w0.heap.size ≤ A) (hV : w0.heap.size ≤ V) (h : Only (A :: V :: blk v) wr wr') : Carry w0 fc seen x xb wr' :=
  ⟨M.stays C.seen_ (by simp) h, M.stays C.box (by simp) h, M.stays C.xr (by simp) h, C.below.trans (h.below (fun y hy => by
    rcases List.mem_cons.1 hy with rfl | hy
    · exact hA
    · rcases List.mem_cons.1 hy with rfl | hy
      · exact hV
      · exact (M.held.own.lt (blk_iff.1 hy)).1) M.low)⟩
theorem Carry.below1 {w0 wr : World} {fc : List Value} {seen : List Bool} {x : Ins} {xb : Nat} (C : Carry w0 fc seen x xb wr) {wr' : World} (hb : Below wr.heap.size wr wr') (hs : w0.heap.size ≤ wr.heap.size) : Carry w0 fc seen x xb wr' :=
  ⟨C.seen_.below hb C.seen_.lt, C.box.below hb C.box.lt, C.xr.below hb C.xr.lt, C.below.trans (below_low hb hs)⟩
theorem Mid.below (M : Mid Bo A V n keep w R ptrs given todo v) (hb : Below w.heap.size w w') : Mid Bo A V n keep w' R ptrs given todo v :=
  M.grew (Grew.ofOnly (S := []) (Only.ofBelow hb) rfl (fun k hk => rep_none M.nodes hk)) (M.nodes.same fun g hg => hb.block g (by
    cases hr : R g with
    | none => exact absurd hr hg
    | some t => exact M.nodes.lt hr))
end
theorem not_fits_eff {l : List Ins} {k : Nat} {s : List Int} (hk : k < l.length) (hc : PeepPlain.Comes E0 l k s) (he : effOf (l.getD k default) s = none) : ¬ PeepPlain.Fits E0 l := fun F => by
  obtain ⟨r, hr⟩ := F.goes k s hk hc
  have hr' : effOf (l.getD k default) s = some r := hr
  rw [he] at hr'
  cases hr'
theorem not_fits_one {l : List Ins} {k : Nat} {s u : List Int} (h1 : PeepPlain.Comes E0 l k s) (h2 : PeepPlain.Comes E0 l k u) (hne : u ≠ s) : ¬ PeepPlain.Fits E0 l := fun F => hne (F.one k u s h2 h1)
theorem hand_few {l : List Ins} {g : List (Option (List Int))} {k : Nat} {s : List Int} {t t2 : List Int} (hg : k < g.length) (h : t2.length = (handT g (idx t) k).length) : nones (handA g k s) + t2.length = nones g + t.length := by
  have := hand_less (s := s) (todo := idx t) hg
  rw [h, this, idx_length]
theorem given_cases {g : List (Option (List Int))} {k : Nat} (s : List Int) : (g.getD k none = none ∨ g.getD k none = some s) ∨ ∃ u, g.getD k none = some u ∧ u ≠ s := by
  cases h : g.getD k none with
  | none => exact .inl (.inl rfl)
  | some u =>
    by_cases e : u = s
    · subst e; exact .inl (.inr rfl)
    · exact .inr ⟨u, rfl, e⟩
theorem seenI_set (l : List Bool) (k : Nat) : seenI (l.set k true) = (seenI l).set k 1 := by simp [seenI, List.map_set]
theorem ins_getD {l : List Ins} {k : Nat} (h : k < l.length) : l.getD k default = l[k] := ins_get h
set_option maxRecDepth 20000 in
set_option maxHeartbeats 8000000 in
theorem fits_walk (nm : ByteArray) (params slots around : Int) (TA CA : Option Addr) (tn tc cc : Nat) (l : List Ins) (w : World) (W : WF l) (hA : InsAt w CA l) (hl : l.length ≤ 100000) (hok : ∀ k, k < l.length → (0 ≤ (l.getD k default).a ∧ (l.getD k default).a ≤ 100000) ∧ 0 ≤ (l.getD k default).b ∧ (l.getD k default).b ≤ 3) :
    Calls Tryz.prog 41 #[.agg #[.string nm, .int .i64 params, .int .i64 slots, .slice TA tn tc, .int .i64 around, .slice CA l.length cc]] w fun e w' => (∃ r : Int, e = .returned (.int .i64 r) ∧ (r = -1 ↔ PeepPlain.Fits E0 l) ∧ -1 ≤ r ∧ r ≤ 1000000) ∧ Below w.heap.size w w' := by
  have hwr : wrap64 ((l.length : Int) + 1) = (l.length : Int) + 1 := by
    unfold wrap64
    omega
  have hmp : ∀ w, (Instr.makeSlice 102 (.int .i64 ((l.length : Int) + 1)) (.int .i64 ((l.length : Int) + 1))).run Tryz.prog w = .ok (.slice (some ⟨w.heap.size, 0, none⟩) (l.length + 1) (l.length + 1)) (w.alloc (.cells (ptrC (List.replicate (l.length + 1) none)).toArray 103)) := fun w => make_ptrs (l.length + 1) (by omega) w
  have hmi := fun w => make_ints l.length (by omega) w
  obtain ⟨b, off, rfl, hbl, hcs⟩ := hA.at_ W.pos
  have HCS := Lib.hid hcs
  clear hcs
  have HA := Lib.hid hA
  have HW := Lib.hid W
  have HA0 := Lib.hid hA.old
  have HOK := Lib.hid hok
  have HL := Lib.hid hl
  clear hA W hok hl
  go_enter Tryz.func41, Tryz.ntmps41
  go_wp2_with fail
  go_step3
  go_wp2_with fail
  go_step3
  go_wp2_with fail
  go_loopw [2, 6, 7, 8, 9] (fun z0 z1 z2 z3 z4 wr => Hid (FitAny w (some ⟨b, off, none⟩) l [.string nm, .int .i64 params, .int .i64 slots, .slice TA tn tc, .int .i64 around, .slice (some ⟨b, off, none⟩) l.length cc] wr)) (fun _ _ _ _ _ wr => nilsAt wr (w.heap.size + 1) + lenAt wr (w.heap.size + 1 + 1 + 1 + 1))
  case atStart => exact Lib.hid ⟨_, _, _, _, _, _, fits_start w (some ⟨b, off, none⟩) l [.string nm, .int .i64 params, .int .i64 slots, .slice TA tn tc, .int .i64 around, .slice (some ⟨b, off, none⟩) l.length cc] HW.out HA.out⟩
  case round =>
    clear hmp hmi hwr
    rename World => w2
    obtain ⟨R, ptrs, given, seen, todo, v, F⟩ := hrel.out
    have HF := Lib.hid F
    have HME := Lib.hid F.mid.measure
    obtain ⟨TB, tcp, rfl⟩ := F.mid.held.shape
    have ct : w2.cell? ⟨w.heap.size + 1 + 1 + 1 + 1, 0, none⟩ = some (.slice TB todo.length tcp) := F.mid.held.cellR
    have cb : w2.cell? ⟨w.heap.size, 5, none⟩ = some (.slice (some ⟨b, off, none⟩) l.length cc) := F.box.cell 5
    have hfew : Hid (todo.length ≤ 200000) := Lib.hid (by have := F.few; have := HL.out; omega)
    clear F hrel
    by_cases h0 : 0 < todo.length
    · have H0 := Lib.hid h0
      go_upto_region 7 with (first
        | (go_at_call 74; refine (pop_mid HF.out.mid H0.out (by have := hfew.out; omega)).mono ?_; rintro en w3 ⟨k, t2, v2, rfl, M3, hmem, hlen, ho3⟩
           have M3H := Lib.hid M3
           have HMEM := Lib.hid hmem
           have HLEN := Lib.hid hlen
           have HO3 := Lib.hid ho3
           clear M3 hmem hlen ho3))
      have hk : k < l.length := (HF.out.look.want k ((HMEM.out k).2 (.inl rfl))).1
      have hks : k < seen.length := by rw [HF.out.look.lenS]; exact hk
      have hki : (0 : Int) ≤ (k : Int) ∧ (k : Int) < (l.length : Int) := by omega
      have HS3 : Hid (Row w3 (w.heap.size + 1 + 1) 3 (intC (seenI seen))) := Lib.hid (HF.out.mid.stays HF.out.seen_ (by simp) HO3.out)
      have HB3 := Lib.hid (HF.out.mid.stays HF.out.box (by simp) HO3.out)
      have HBE3 : Hid (Below w.heap.size w w3) := Lib.hid (HF.out.below.trans (HO3.out.below (fun x hx => by
        rcases List.mem_cons.1 hx with rfl | hx
        · omega
        · rcases List.mem_cons.1 hx with rfl | hx
          · omega
          · exact (HF.out.mid.held.own.lt (blk_iff.1 hx)).1) HF.out.mid.low))
      have HI3 : Hid (InsAt w3 (some ⟨b, off, none⟩) l) := Lib.hid (HA.out.below HBE3.out)
      have cs3 := int_at HS3.out (show k < (seenI seen).length by simp [seenI]; exact hks)
      have esv : (seenI seen)[k]'(by simp [seenI]; exact hks) = if seen.getD k false then 1 else 0 := by
        simp only [seenI, List.getElem_map]
        rw [List.getD_eq_getElem?_getD, List.getElem?_eq_getElem hks]
        rfl
      rw [esv] at cs3
      by_cases hseen : seen.getD k false = true
      · rw [if_pos hseen] at cs3
        have HL2 := Lib.hid (look_skip HF.out.look HMEM.out hseen)
        clear esv hseen hks
        go_wp2_with fail
        go_roundw
        case rel => exact Lib.hid ⟨R, ptrs, given, seen, t2, v2, ⟨M3H.out, HS3.out, HB3.out, HL2.out, by have := HF.out.few; have := HLEN.out; omega, HBE3.out, HI3.out⟩⟩
        case measure =>
          rw [HME.out, M3H.out.measure]
          have := HLEN.out
          omega
      · rw [if_neg hseen] at cs3
        have HNS : Hid (seen.getD k false = false) := Lib.hid (by simpa using hseen)
        have cf3 := HS3.out.free k
        obtain ⟨x, hx⟩ : ∃ x, x = l[k] := ⟨_, rfl⟩
        obtain ⟨c0, c1, c2, c3, c4⟩ := HCS.out k hk
        rw [← hx] at c0 c1 c2 c3 c4
        have HX := Lib.hid hx
        have cb3 : w3.cell? ⟨w.heap.size, 5, none⟩ = some (.slice (some ⟨b, off, none⟩) l.length cc) := HB3.out.cell 5
        have hlow3 := HBE3.out.size
        have hlt3 := HS3.out.lt
        have hbne : b ≠ w.heap.size + 1 + 1 := by omega
        have d0 := (HBE3.out.cell (p := ⟨b, off + k * 5, none⟩) hbl).trans c0
        have d1 := (HBE3.out.cell (p := ⟨b, off + k * 5 + 1, none⟩) hbl).trans c1
        have d2 := (HBE3.out.cell (p := ⟨b, off + k * 5 + 2, none⟩) hbl).trans c2
        have d3 := (HBE3.out.cell (p := ⟨b, off + k * 5 + 3, none⟩) hbl).trans c3
        have d4 := (HBE3.out.cell (p := ⟨b, off + k * 5 + 4, none⟩) hbl).trans c4
        clear esv hseen hks hx c0 c1 c2 c3 c4
        go_upto_region 10 with fail
        have hsz4 : (w3.setCell ⟨w.heap.size + 1 + 1, k, none⟩ (.int .i64 1)).heap.size = w3.heap.size := by simp [World.setCell]
        have M5 := (M3H.out.wrote (x := w.heap.size + 1 + 1) ((Only.refl [w.heap.size + 1 + 1] w3).setCell (p := ⟨w.heap.size + 1 + 1, k, none⟩) (.inl (by simp)) (.int .i64 1)) (by simp)).alloc (.cells #[.int .i64 x.op, .int .i64 x.a, .int .i64 x.b, .string x.text, .int .i64 x.pos] 50)
        have S5 := (HS3.out.set k (.int .i64 1)).alloc (.cells #[.int .i64 x.op, .int .i64 x.a, .int .i64 x.b, .string x.text, .int .i64 x.pos] 50)
        rw [← intC_set, ← seenI_set] at S5
        have B5 := (HB3.out.setFar (p := ⟨w.heap.size + 1 + 1, k, none⟩) (by show w.heap.size ≠ w.heap.size + 1 + 1; omega) (.int .i64 1)).alloc (.cells #[.int .i64 x.op, .int .i64 x.a, .int .i64 x.b, .string x.text, .int .i64 x.pos] 50)
        have X5 := Row.made (w3.setCell ⟨w.heap.size + 1 + 1, k, none⟩ (.int .i64 1)) 50 [.int .i64 x.op, .int .i64 x.a, .int .i64 x.b, .string x.text, .int .i64 x.pos]
        have BE5 := (HBE3.out.setCell (p := ⟨w.heap.size + 1 + 1, k, none⟩) (by show w.heap.size ≤ w.heap.size + 1 + 1; omega) (.int .i64 1)).alloc (by rw [hsz4]; exact hlow3) (.cells #[.int .i64 x.op, .int .i64 x.a, .int .i64 x.b, .string x.text, .int .i64 x.pos] 50)
        obtain ⟨s, hsk⟩ := (HF.out.look.want k ((HMEM.out k).2 (.inl rfl))).2
        have hpk := M5.pts k (by omega)
        rw [hsk] at hpk
        obtain ⟨g, hpg, hRg⟩ := hpk
        have hck := HF.out.look.comes k s hsk
        have hxk : l.getD k default = x := by rw [HX.out]; exact ins_get hk
        have hat := ptr_at M5.at_ (getD_some (by rw [M5.len]; omega) hpg)
        have hlv := leaves_walk w.heap.size R g s x _ M5.nodes hRg (by have := comes_len hck; omega) M5.low (by have := (HOK.out k hk).1; rw [hxk] at this; exact this) (by have := (HOK.out k hk).2; rw [hxk] at this; exact this)
        have HAL := look_half HF.out.look HMEM.out
        rw [hsz4] at M5 X5
        replace HAL := Lib.hid HAL
        replace M5 := Lib.hid M5
        replace S5 := Lib.hid S5
        replace B5 := Lib.hid B5
        have X5H := Lib.hid X5
        replace BE5 := Lib.hid BE5
        have HSK := Lib.hid hsk
        have HRG := Lib.hid hRg
        have HCK := Lib.hid hck
        have HXK := Lib.hid hxk
        have e0 := X5.cell 0
        have e1 := X5.cell 1
        have e2 := X5.cell 2
        have e3 := X5.cell 3
        have e4 := X5.cell 4
        simp only [List.getElem?_cons_zero, List.getElem?_cons_succ] at e0 e1 e2 e3 e4
        have hki2 : (0 : Int) ≤ (k : Int) ∧ (k : Int) < ((l.length + 1 : Nat) : Int) := by omega
        have hpos : Hid (w.heap.size ≤ w3.heap.size) := Lib.hid hlow3
        have HPG := Lib.hid hpg
        clear hsk hpg hRg hck hxk X5 d0 d1 d2 d3 d4 cb3 cs3 cf3 hlow3 hlt3 hbne hsz4 ct cb
        have hpg' := hat
        clear hpg'
        obtain ⟨W5, hW5⟩ : ∃ W5, W5 = (w3.setCell ⟨w.heap.size + 1 + 1, k, none⟩ (.int .i64 1)).alloc (.cells #[.int .i64 x.op, .int .i64 x.a, .int .i64 x.b, .string x.text, .int .i64 x.pos] 50) := ⟨_, rfl⟩
        rw [← hW5] at hlv M5 S5 B5 X5H BE5 e0 e1 e2 e3 e4 hat ⊢
        clear hW5
        have HAT := Lib.hid (show ptrs[k]? = some (some ⟨g, 0, none⟩) from getD_some (by rw [M5.out.len]; omega) HPG.out)
        have HPRE := Lib.hid (show s.length ≤ 100000 ∧ (0 ≤ x.a ∧ x.a ≤ 100000) ∧ 0 ≤ x.b ∧ x.b ≤ 3 from ⟨by have := comes_len HCK.out; omega, by have := (HOK.out k hk).1; rw [HXK.out] at this; exact this, by have := (HOK.out k hk).2; rw [HXK.out] at this; exact this⟩)
        clear hlv
        have hki : (0 : Int) ≤ (k : Int) ∧ (k : Int) < (l.length : Int) + 1 := by omega
        have hki3 : (k : Int) ≤ (l.length : Int) := by omega
        go_region_held3 (fun w' => w'.cell? ⟨w3.heap.size, 0, none⟩ = some (.int .i64 x.op) ∧ w'.cell? ⟨w3.heap.size, 1, none⟩ = some (.int .i64 x.a) ∧ w'.cell? ⟨w3.heap.size, 2, none⟩ = some (.int .i64 x.b) ∧ w'.cell? ⟨w3.heap.size, 3, none⟩ = some (.string x.text) ∧ w'.cell? ⟨w3.heap.size, 4, none⟩ = some (.int .i64 x.pos) ∧ w'.cell? ⟨w.heap.size + 1, k, none⟩ = some (.pointer (some ⟨g, 0, none⟩)))
          (first | exact ⟨e0, e1, e2, e3, e4, hat⟩ | exact ⟨f0, f1, f2, f3, f4, fat⟩ | go_keep)
          (first | (go_at_call 75; refine (leaves_walk w.heap.size R g s x _ (M5.out.nodes.same (w' := W5.drew) (fun _ _ => rfl)) HRG.out HPRE.out.1 M5.out.low HPRE.out.2.1 HPRE.out.2.2).mono ?_; rintro en w6 ⟨o1, o2, R6, rfl, hn6, hg6, hl6⟩; have hg6' : Grew R W5 R6 w6 := ⟨hg6.os, hg6.tape, hg6.output, hg6.size, hg6.block, hg6.keep, hg6.new⟩; have X6 := M5.out.kept X5H.out (by simp) hg6'; have f0 := X6.cell 0; have f1 := X6.cell 1; have f2 := X6.cell 2; have f3 := X6.cell 3; have f4 := X6.cell 4; simp only [List.getElem?_cons_zero, List.getElem?_cons_succ] at f0 f1 f2 f3 f4; have M6 := M5.out.grew hg6' hn6; have fat := ptr_at M6.at_ HAT.out; have HG6 := Lib.hid hg6'; have HM6 := Lib.hid M6; have HX6 := Lib.hid X6; have HL6 := Lib.hid hl6; clear hg6 hg6' X6 M6 hn6 hl6))
        have HC6 : Hid (Carry w [.string nm, .int .i64 params, .int .i64 slots, .slice TA tn tc, .int .i64 around, .slice (some ⟨b, off, none⟩) l.length cc] (seen.set k true) x w3.heap.size w6) := Lib.hid (Carry.grew ⟨S5.out, B5.out, X5H.out, BE5.out⟩ M5.out HG6.out)
        have HFEW : Hid (nones given + t2.length + 1 ≤ l.length + 1 ∧ nones given + t2.length < nones given + todo.length ∧ t2.length ≤ 200000) := Lib.hid (by have := HF.out.few; have := HLEN.out; have := hfew.out; omega)
        have hklen : k < l.length := hk
        have hopx : Hid (PeepPlain.opAt l k = x.op) := Lib.hid (by show (l.getD k default).op = _; rw [HXK.out])
        clear e0 e1 e2 e3 e4 hat f3 f4 fat M5 S5 B5 X5H BE5 HAT HPG HRG HB3 HS3 HO3 HI3 HBE3 HX6 HG6 HCS
        cases heff : effOf x s with
        | none =>
          rw [heff] at HL6
          obtain rfl : o1 = none := HL6.out
          have HNF := Lib.hid (not_fits_eff hk HCK.out (by rw [HXK.out]; exact heff))
          clear heff HL6 f0 f1 f2
          go_wp2_with fail
          unfold Exit.noGoto
          dsimp only
          go_ret
          exact ⟨⟨k, rfl, ⟨fun h => by omega, fun h => absurd h HNF.out⟩, by omega, by have := HL.out; omega⟩, HC6.out.below⟩
        | some r =>
          rw [heff] at HL6
          obtain ⟨hp1, hp2⟩ := HL6.out
          have HP1 := Lib.hid hp1
          have HP2 := Lib.hid hp2
          obtain ⟨g1, rfl, _⟩ := hp1
          have HEFF : Hid (E0.eff (l.getD k default) s = some r) := Lib.hid (by rw [HXK.out]; exact heff)
          clear heff HL6 hp2 f1 f2
          have f1 : w6.cell? ⟨w3.heap.size, 1, none⟩ = some (.int .i64 x.a) := HC6.out.xr.cell 1
          by_cases h50 : x.op = 50
          · have HOP := Lib.hid h50
            have HLK : Hid (Look E0 l given (seen.set k true) (idx t2)) := Lib.hid (half_look HAL.out HSK.out HEFF.out (fun _ h => absurd (hopx.out.trans HOP.out) h) (fun h => by rw [hopx.out, HOP.out] at h; exact absurd h (by decide)))
            have hd : decide (jumps 50) = false := by decide
            rw [h50] at f0
            clear h50
            go_wp2_with (first
              | (go_at_call 73; refine (goes_walk _ _).mono ?_; rintro en w8 ⟨rfl, hb8⟩
                 have C8H := Lib.hid (HC6.out.below1 hb8 HM6.out.low)
                 have M8H := Lib.hid (HM6.out.below hb8)
                 clear hb8))
            go_roundw
            case rel => exact Lib.hid ⟨R6, ptrs, given, seen.set k true, t2, v2, ⟨M8H.out.less (by simp), C8H.out.seen_, C8H.out.box, HLK.out, by have := HFEW.out; omega, C8H.out.below, HA.out.below C8H.out.below⟩⟩
            case measure =>
              rw [HME.out, M8H.out.measure]
              exact HFEW.out.2.1
          by_cases h34 : x.op = 34
          · have HOP := Lib.hid h34
            have hj : jumps (PeepPlain.opAt l k) := by rw [hopx.out, h34]; exact jump_jumps
            have HJL := Lib.hid (HW.out.high k hk hj)
            have hxa : x.a = (aAt l k : Int) := by have := a_get hk (HW.out.low k hk hj); rw [← HX.out] at this; exact this
            have HXA := Lib.hid hxa
            have HCT : Hid (PeepPlain.Comes E0 l (aAt l k) r.2) := Lib.hid (.toA HCK.out hk HEFF.out hj)
            have hd : decide (jumps 34) = true := by decide
            rw [h34] at f0
            clear h34 hj hxa
            rcases given_cases (g := given) (k := aAt l k) r.2 with hh | ⟨u, hu, hne⟩
            · have HH1 := Lib.hid hh
              have HH2 := Lib.hid (half_hand HAL.out HJL.out HCT.out)
              have HLV : Hid ((handA given (aAt l k) r.2).getD (aAt l k) none = some r.2) := Lib.hid (handA_at (by rw [HM6.out.glen]; have := HJL.out; omega) hh)
              clear hh
              go_wp2_with (first
                | (go_at_call 73; refine (goes_walk _ _).mono ?_; rintro en w8 ⟨rfl, hb8⟩
                   have C8H := Lib.hid (HC6.out.below1 hb8 HM6.out.low)
                   have M8H := Lib.hid (HM6.out.below hb8)
                   have y81 : w8.cell? ⟨w3.heap.size, 1, none⟩ = some (.int .i64 x.a) := C8H.out.xr.cell 1
                   clear hb8)
                | (go_at_call 76; refine (hand_ok M8H.out (k := aAt l k) (by have := HJL.out; omega) HP2.out (by have := HFEW.out; omega) (by have := HL.out; omega) HH1.out _ HXA.out).mono ?_; rintro en w9 ⟨rfl, p9, t9, v9, m9, hm9, hl9, ho9⟩
                   have C9H := Lib.hid (C8H.out.only M8H.out (by omega) (by omega) ho9)
                   have M9H := Lib.hid m9
                   have HM9 := Lib.hid hm9
                   have HL9 := Lib.hid hl9
                   clear m9 hm9 hl9 ho9))
              have HLK : Hid (Look E0 l (handA given (aAt l k) r.2) (seen.set k true) (idx t9)) := Lib.hid (half_look (half_mem HH2.out HM9.out) (handA_keeps HSK.out) HEFF.out (fun h => absurd (hopx.out.trans HOP.out) h) (fun _ => HLV.out))
              have HF9 := Lib.hid (hand_few (l := l) (s := r.2) (by rw [HM6.out.glen]; have := HJL.out; omega) HL9.out)
              go_roundw
              case rel => exact Lib.hid ⟨R6, p9, _, seen.set k true, t9, v9, ⟨M9H.out.less (by simp), C9H.out.seen_, C9H.out.box, HLK.out, by have := HFEW.out; have := HF9.out; omega, C9H.out.below, HA.out.below C9H.out.below⟩⟩
              case measure =>
                rw [HME.out, M9H.out.measure]
                have := HFEW.out
                have := HF9.out
                omega
            · have HU := Lib.hid hu
              have HNE := Lib.hid hne
              have HNF := Lib.hid (not_fits_one HCT.out (HAL.out.comes _ _ hu) hne)
              clear hu hne
              go_wp2_with (first
                | (go_at_call 73; refine (goes_walk _ _).mono ?_; rintro en w8 ⟨rfl, hb8⟩
                   have C8H := Lib.hid (HC6.out.below1 hb8 HM6.out.low)
                   have M8H := Lib.hid (HM6.out.below hb8)
                   have y81 : w8.cell? ⟨w3.heap.size, 1, none⟩ = some (.int .i64 x.a) := C8H.out.xr.cell 1
                   clear hb8)
                | (go_at_call 76; refine (hand_bad M8H.out (k := aAt l k) (by have := HJL.out; omega) HP2.out (by have := HFEW.out; omega) (by have := HL.out; omega) HU.out HNE.out _ HXA.out).mono ?_; rintro en w9 ⟨rfl, rfl⟩))
              unfold Exit.noGoto
              dsimp only
              go_ret
              exact ⟨⟨x.a, rfl, ⟨fun h => by have := HXA.out; omega, fun h => absurd h HNF.out⟩, by have := HXA.out; omega, by have := HXA.out; have := HL.out; have := HJL.out; omega⟩, C8H.out.below⟩
          have HK1 : Hid (k + 1 < l.length) := Lib.hid (by
            rcases Nat.lt_or_ge (k + 1) l.length with h | h
            · exact h
            · have e : l.length - 1 = k := by omega
              have := HW.out.last
              rw [e, hopx.out] at this
              rcases this with h | h
              · exact absurd h h50
              · exact absurd h h34)
          have hc1 : PeepPlain.Comes E0 l (k + 1) r.1 := .next HCK.out hk HEFF.out (by rw [hopx.out]; exact h34) (by rw [hopx.out]; exact h50)
          have HC1 := Lib.hid hc1
          have HWK : Hid (wrap64 ((k : Int) + 1) = (k : Int) + 1) := Lib.hid (by unfold wrap64; have := HL.out; omega)
          have b34 : (x.op == (34 : Int)) = false := beq_eq_false_iff_ne.2 h34
          have n34 : (x.op != (34 : Int)) = true := bne_iff_ne.2 h34
          have b50 : (x.op == (50 : Int)) = false := beq_eq_false_iff_ne.2 h50
          have n50 : (x.op != (50 : Int)) = true := bne_iff_ne.2 h50
          have H34 := Lib.hid h34
          have H50 := Lib.hid h50
          clear hc1 h34 h50
          rcases given_cases (g := given) (k := k + 1) r.1 with hh | ⟨u, hu, hne⟩
          · have HH1 := Lib.hid hh
            have HH2 := Lib.hid (half_hand HAL.out HK1.out HC1.out)
            have HLV : Hid ((handA given (k + 1) r.1).getD (k + 1) none = some r.1) := Lib.hid (handA_at (by rw [HM6.out.glen]; have := HK1.out; omega) hh)
            clear hh
            by_cases hj : jumps x.op
            · have hd : decide (jumps x.op) = true := decide_eq_true hj
              have hjj : jumps (PeepPlain.opAt l k) := by rw [hopx.out]; exact hj
              have HJL := Lib.hid (HW.out.high k hk hjj)
              have hxa : x.a = (aAt l k : Int) := by have := a_get hk (HW.out.low k hk hjj); rw [← HX.out] at this; exact this
              have HXA := Lib.hid hxa
              have HCT : Hid (PeepPlain.Comes E0 l (aAt l k) r.2) := Lib.hid (.toA HCK.out hk HEFF.out hjj)
              clear hj hjj hxa
              rcases given_cases (g := handA given (k + 1) r.1) (k := aAt l k) r.2 with hh | ⟨u, hu, hne⟩
              · have HH3 := Lib.hid hh
                have HLW : Hid ((handA (handA given (k + 1) r.1) (aAt l k) r.2).getD (aAt l k) none = some r.2) := Lib.hid (handA_at (by rw [handA_length, HM6.out.glen]; have := HJL.out; omega) hh)
                clear hh
                go_wp2_with (first
                  | (have hh1 := HH1.out; go_at_call 76; refine (hand_ok HM6.out (k := k + 1) (by have := HK1.out; omega) HP1.out (by have := HFEW.out; omega) (by have := HL.out; omega) HH1.out _ (by first | omega | exact HWK.out.trans (by omega) | (have := HWK.out; omega))).mono ?_; rintro en w7 ⟨rfl, p7, t7, v7, m7, hm7, hl7, ho7⟩
                     have C7H := Lib.hid (HC6.out.only HM6.out (by omega) (by omega) ho7)
                     have M7H := Lib.hid m7
                     have HM7 := Lib.hid hm7
                     have HL7 := Lib.hid hl7
                     have y70 : w7.cell? ⟨w3.heap.size, 0, none⟩ = some (.int .i64 x.op) := C7H.out.xr.cell 0
                     clear m7 hm7 hl7 ho7 HH1 hh1)
                  | (go_at_call 73; refine (goes_walk _ _).mono ?_; rintro en w8 ⟨rfl, hb8⟩
                     have C8H := Lib.hid (C7H.out.below1 hb8 M7H.out.low)
                     have M8H := Lib.hid (M7H.out.below hb8)
                     have y81 : w8.cell? ⟨w3.heap.size, 1, none⟩ = some (.int .i64 x.a) := C8H.out.xr.cell 1
                     clear hb8)
                  | (go_at_call 76; refine (hand_ok M8H.out (k := aAt l k) (by have := HJL.out; omega) HP2.out (by have := HL.out; have := HFEW.out; have := (hand_few (l := l) (s := r.1) (by rw [HM6.out.glen]; have := HK1.out; omega) HL7.out); omega) (by have := HL.out; omega) HH3.out _ HXA.out).mono ?_; rintro en w9 ⟨rfl, p9, t9, v9, m9, hm9, hl9, ho9⟩
                     have C9H := Lib.hid (C8H.out.only M8H.out (by omega) (by omega) ho9)
                     have M9H := Lib.hid m9
                     have HM9 := Lib.hid hm9
                     have HL9 := Lib.hid hl9
                     clear m9 hm9 hl9 ho9))
                have HF7 := Lib.hid (hand_few (l := l) (s := r.1) (by rw [HM6.out.glen]; have := HK1.out; omega) HL7.out)
                have HF9 := Lib.hid (hand_few (l := l) (s := r.2) (by rw [handA_length, HM6.out.glen]; have := HJL.out; omega) HL9.out)
                have HLK := Lib.hid (half_look (half_mem (half_hand (half_mem HH2.out HM7.out) HJL.out HCT.out) HM9.out) (handA_keeps (handA_keeps HSK.out)) HEFF.out (fun _ _ => handA_keeps HLV.out) (fun _ => HLW.out))
                go_roundw
                case rel => exact Lib.hid ⟨R6, p9, _, seen.set k true, t9, v9, ⟨M9H.out.less (by simp), C9H.out.seen_, C9H.out.box, HLK.out, by have := HFEW.out; have := HF7.out; have := HF9.out; omega, C9H.out.below, HA.out.below C9H.out.below⟩⟩
                case measure =>
                  rw [HME.out, M9H.out.measure]
                  have := HFEW.out
                  have := HF7.out
                  have := HF9.out
                  omega
              · have HU := Lib.hid hu
                have HNE := Lib.hid hne
                have HNF := Lib.hid (not_fits_one HCT.out (HH2.out.comes _ _ hu) hne)
                clear hu hne
                go_wp2_with (first
                  | (have hh1 := HH1.out; go_at_call 76; refine (hand_ok HM6.out (k := k + 1) (by have := HK1.out; omega) HP1.out (by have := HFEW.out; omega) (by have := HL.out; omega) HH1.out _ (by first | omega | exact HWK.out.trans (by omega) | (have := HWK.out; omega))).mono ?_; rintro en w7 ⟨rfl, p7, t7, v7, m7, hm7, hl7, ho7⟩
                     have C7H := Lib.hid (HC6.out.only HM6.out (by omega) (by omega) ho7)
                     have M7H := Lib.hid m7
                     have HM7 := Lib.hid hm7
                     have HL7 := Lib.hid hl7
                     have y70 : w7.cell? ⟨w3.heap.size, 0, none⟩ = some (.int .i64 x.op) := C7H.out.xr.cell 0
                     clear m7 hm7 hl7 ho7 HH1 hh1)
                  | (go_at_call 73; refine (goes_walk _ _).mono ?_; rintro en w8 ⟨rfl, hb8⟩
                     have C8H := Lib.hid (C7H.out.below1 hb8 M7H.out.low)
                     have M8H := Lib.hid (M7H.out.below hb8)
                     have y81 : w8.cell? ⟨w3.heap.size, 1, none⟩ = some (.int .i64 x.a) := C8H.out.xr.cell 1
                     clear hb8)
                  | (go_at_call 76; refine (hand_bad M8H.out (k := aAt l k) (by have := HJL.out; omega) HP2.out (by have := HL.out; have := HFEW.out; have := (hand_few (l := l) (s := r.1) (by rw [HM6.out.glen]; have := HK1.out; omega) HL7.out); omega) (by have := HL.out; omega) HU.out HNE.out _ HXA.out).mono ?_; rintro en w9 ⟨rfl, rfl⟩))
                unfold Exit.noGoto
                dsimp only
                go_ret
                exact ⟨⟨x.a, rfl, ⟨fun h => by have := HXA.out; omega, fun h => absurd h HNF.out⟩, by have := HXA.out; omega, by have := HXA.out; have := HL.out; have := HJL.out; omega⟩, C8H.out.below⟩
            · have hd : decide (jumps x.op) = false := decide_eq_false hj
              have HJ : Hid (¬ jumps (PeepPlain.opAt l k)) := Lib.hid (by rw [hopx.out]; exact hj)
              clear hj
              go_wp2_with (first
                  | (have hh1 := HH1.out; go_at_call 76; refine (hand_ok HM6.out (k := k + 1) (by have := HK1.out; omega) HP1.out (by have := HFEW.out; omega) (by have := HL.out; omega) HH1.out _ (by first | omega | exact HWK.out.trans (by omega) | (have := HWK.out; omega))).mono ?_; rintro en w7 ⟨rfl, p7, t7, v7, m7, hm7, hl7, ho7⟩
                     have C7H := Lib.hid (HC6.out.only HM6.out (by omega) (by omega) ho7)
                     have M7H := Lib.hid m7
                     have HM7 := Lib.hid hm7
                     have HL7 := Lib.hid hl7
                     have y70 : w7.cell? ⟨w3.heap.size, 0, none⟩ = some (.int .i64 x.op) := C7H.out.xr.cell 0
                     clear m7 hm7 hl7 ho7 HH1 hh1)
                  | (go_at_call 73; refine (goes_walk _ _).mono ?_; rintro en w8 ⟨rfl, hb8⟩
                     have C8H := Lib.hid (C7H.out.below1 hb8 M7H.out.low)
                     have M8H := Lib.hid (M7H.out.below hb8)
                     have y81 : w8.cell? ⟨w3.heap.size, 1, none⟩ = some (.int .i64 x.a) := C8H.out.xr.cell 1
                     clear hb8))
              have HF7 := Lib.hid (hand_few (l := l) (s := r.1) (by rw [HM6.out.glen]; have := HK1.out; omega) HL7.out)
              have HLK := Lib.hid (half_look (half_mem HH2.out HM7.out) (handA_keeps HSK.out) HEFF.out (fun _ _ => HLV.out) (fun h => absurd h HJ.out))
              go_roundw
              case rel => exact Lib.hid ⟨R6, p7, _, seen.set k true, t7, v7, ⟨M8H.out.less (by simp), C8H.out.seen_, C8H.out.box, HLK.out, by have := HFEW.out; have := HF7.out; omega, C8H.out.below, HA.out.below C8H.out.below⟩⟩
              case measure =>
                rw [HME.out, M8H.out.measure]
                have := HFEW.out
                have := HF7.out
                omega
          · have HU := Lib.hid hu
            have HNE := Lib.hid hne
            have HNF := Lib.hid (not_fits_one HC1.out (HAL.out.comes _ _ hu) hne)
            clear hu hne
            go_wp2_with (first
              | (go_at_call 76; refine (hand_bad HM6.out (k := k + 1) (by have := HK1.out; omega) HP1.out (by have := HFEW.out; omega) (by have := HL.out; omega) HU.out HNE.out _ (by first | omega | (have := HWK.out; omega))).mono ?_; rintro en w9 ⟨rfl, rfl⟩))
            unfold Exit.noGoto
            dsimp only
            go_ret
            exact ⟨⟨_, rfl, ⟨fun h => by rw [HWK.out] at h; omega, fun h => absurd h HNF.out⟩, by rw [HWK.out]; omega, by rw [HWK.out]; have := HL.out; omega⟩, HC6.out.below⟩
    · obtain rfl : todo = [] := List.eq_nil_of_length_eq_zero (by omega)
      have HFT := Lib.hid (look_fits HF.out.look)
      have HBB := Lib.hid HF.out.below
      clear h0
      go_wp2_with fail
      unfold Exit.noGoto
      dsimp only
      go_ret
      exact ⟨⟨-1, rfl, ⟨fun _ => HFT.out, fun _ => rfl⟩, by omega, by omega⟩, HBB.out⟩
end Go.Proofs.YtmecmlpoallpcaaGreatDoor
