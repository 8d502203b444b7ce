/- Texts of this proof, put together: PrB, PrC, PrD, KnownW. -/
import Derived.Test.YtmecmlpoallpcaaGreatDoorM36
import Derived.Deep.QuietTactic
import Derived.BigQuiet
set_option linter.all false
/- peep.Program (9). -/
namespace Go.Proofs.YtmecmlpoallpcaaGreatDoor
set_option linter.unusedVariables false
open Go.RowKit Go.Proofs.PeepPlain

theorem size44 : (Tryz.prog.info? 44).map (·.size) = some 1 := by kernel_rfl
theorem size45 : (Tryz.prog.info? 45).map (·.size) = some 1 := by kernel_rfl
theorem size22 : (Tryz.prog.info? 22).map (·.size) = some 1 := by kernel_rfl
/-- What peep.Program answers to right code. -/
def ProgPost (fs : List Fn) (gs : List ByteArray) (w : World) (e : Ending) (w' : World) : Prop :=
  ∃ (fs' : List Fn) (A' : Option Addr) (c' : Nat) (GA' : Option Addr) (gc' : Nat), e = .returned (.tuple #[.agg #[.slice A' fs'.length c', .slice GA' gs.length gc'], .nilIface]) ∧ FnsAt w' A' fs' ∧ Lies w' GA' (gs.map Value.string) ∧ Made fs fs' ∧ Below w.heap.size w w' ∧ (∀ a, A' = some a → w.heap.size ≤ a.block) ∧ (∀ a, GA' = some a → w.heap.size ≤ a.block) ∧ ∀ f ∈ fs', PartAt w.heap.size w' f
theorem own_fns {w : World} {B : Nat} {v : Value} {l : List Fn} (h : OwnF B w v l) : ∃ A c, v = .slice A l.length c ∧ Lies w A (flatFn l) ∧ ∀ a, A = some a → B ≤ a.block := by
  have hlt := World.ownsRow.lt h
  rcases h.2 with ⟨rfl, h0⟩ | ⟨g, cap, cur, rfl, hb, hg, hr⟩
  · rw [h0]
    refine ⟨none, 0, rfl, fun hp => ?_, fun a ha => by cases ha⟩
    rw [flatFn_length] at hp
    omega
  · refine ⟨_, cap, rfl, fun hp => ⟨g, 0, rfl, (hlt g rfl).2, fun j u hu => ?_⟩, fun a ha => ?_⟩
    · have := World.ownsRow.cells h (g := g) rfl j u hu
      rw [Addr.add_lit] at this
      exact this
    · injection ha with ha
      subst ha
      exact (hlt g rfl).1
/-- What holds of the functions that are made, from round to round. -/
structure ProgR (fs : List Fn) (gs : List ByteArray) (w : World) (gq : Nat) (p0 p1 : Value) (GA' : Option Addr) (gc' : Nat) (k : Nat) (wr : World) (fk : List Fn) (vF : Value) : Prop where
  p : Row wr w.heap.size 25 [p0, p1]
  z : Row wr (w.heap.size + 1) 25 [.slice none 0 0, .slice none 0 0]
  q : Row wr gq 25 [vF, .slice GA' gs.length gc']
  own : OwnF (gq + 1) wr vF fk
  made : Made (fs.take k) fk
  parts : ∀ f ∈ fk, PartAt (gq + 1) wr f ∧ ∀ g, vF.ownBlock = some g → Sep f g
  texts : Lies wr GA' (gs.map Value.string)
  low : ∀ a, GA' = some a → w.heap.size + 1 < a.block ∧ a.block < gq
  below : Below w.heap.size w wr
  gq : w.heap.size + 1 < gq ∧ gq < wr.heap.size
theorem ProgR.grow {fs : List Fn} {gs : List ByteArray} {w : World} {gq : Nat} {p0 p1 : Value} {GA' : Option Addr} {gc' k : Nat} {wr w' : World} {fk : List Fn} {vF : Value} (h : ProgR fs gs w gq p0 p1 GA' gc' k wr fk vF) (hb : Below wr.heap.size wr w') : ProgR fs gs w gq p0 p1 GA' gc' k w' fk vF where
  p := h.p.below hb h.p.lt
  z := h.z.below hb h.z.lt
  q := h.q.below hb h.q.lt
  own := own_same h.own fun g hg => hb.block g (World.ownsRow.lt h.own g hg).2
  made := h.made
  parts := fun f hf => ⟨(h.parts f hf).1.below hb, (h.parts f hf).2⟩
  texts := h.texts.below hb rfl
  low := h.low
  below := below_more h.below hb h.below.size
  gq := ⟨h.gq.1, Nat.lt_of_lt_of_le h.gq.2 hb.size⟩
/-- One function more. -/
theorem ProgR.more {fs : List Fn} {gs : List ByteArray} {w : World} {gq : Nat} {p0 p1 : Value} {GA' : Option Addr} {gc' k : Nat} {wr w' : World} {fk : List Fn} {vF : Value} (h : ProgR fs gs w gq p0 p1 GA' gc' k wr fk vF) (hk : k < fs.length) {f : Fn} (hf : MadeOf fs[k] f)
    {g cap : Nat} (ho : OwnF (gq + 1) w' (.slice (some ⟨g, 0, none⟩) (fk.length + 1) cap) (fk ++ [f])) (hg : wr.grownBy w' vF.ownBlock) (hat : vF.ownBlock = some g ∨ wr.heap.size ≤ g) (hp : PartAt (gq + 1) wr f) (hs : ∀ g, vF.ownBlock = some g → Sep f g) :
    ProgR fs gs w gq p0 p1 GA' gc' (k + 1) (w'.setCell ⟨gq, 0, none⟩ (.slice (some ⟨g, 0, none⟩) (fk.length + 1) cap)) (fk ++ [f]) (.slice (some ⟨g, 0, none⟩) (fk.length + 1) cap) := by
  have hlow : ∀ b, vF.ownBlock = some b → gq + 1 ≤ b := fun b hb => (World.ownsRow.lt h.own b hb).1
  have hsz : (w'.setCell ⟨gq, 0, none⟩ (.slice (some ⟨g, 0, none⟩) (fk.length + 1) cap)).heap.size = w'.heap.size := by simp [World.setCell]
  have hgl : gq + 1 ≤ g := (World.ownsRow.lt ho g rfl).1
  have hne : ∀ b, b < gq + 1 → some b ≠ vF.ownBlock := fun b hb e => by have := hlow b e.symm; omega
  have h1 := h.gq
  have h2 := hg.size
  refine ⟨?_, ?_, ?_, ?_, made_snoc hk h.made hf, fun x hx => ?_, ?_, h.low, ?_, ⟨h1.1, by rw [hsz]; omega⟩⟩
  · exact (h.p.grown hg (hne _ (by omega))).setFar (p := ⟨gq, 0, none⟩) (by show w.heap.size ≠ gq; omega) _
  · exact (h.z.grown hg (hne _ (by omega))).setFar (p := ⟨gq, 0, none⟩) (by show w.heap.size + 1 ≠ gq; omega) _
  · exact (h.q.grown hg (hne _ (by omega))).set 0 _
  · have ho2 : OwnF (gq + 1) (w'.setCell ⟨gq, 0, none⟩ (.slice (some ⟨g, 0, none⟩) (fk.length + 1) cap)) (.slice (some ⟨g, 0, none⟩) (fk.length + 1) cap) (fk ++ [f]) := own_same ho fun b hb => heap_setCell_other _ _ _ _ (by
      have e : b = g := by injection hb with e; exact e.symm
      show b ≠ gq
      omega)
    exact ho2
  · have key : PartAt (gq + 1) wr x ∧ ∀ g, vF.ownBlock = some g → Sep x g := by
      rcases List.mem_append.1 hx with hx | hx
      · exact h.parts x hx
      · rw [List.mem_singleton] at hx
        subst hx
        exact ⟨hp, hs⟩
    refine ⟨(key.1.grown hg key.2).set (by omega) _, fun b hb => ?_⟩
    have e : b = g := by injection hb with e; exact e.symm
    subst e
    rcases hat with e | e
    · exact key.2 _ e
    · exact ⟨fun a ha => by have := (key.1.lowC a ha).2; omega, fun a ha => by have := (key.1.lowT a ha).2; omega⟩
  · refine Lies.moved h.texts (by rw [hsz]; exact h2) fun a ha => ?_
    have hl := h.low a ha
    exact (heap_setCell_other _ _ _ _ (by show a.block ≠ gq; omega)).trans (hg.block _ (by omega) (hne _ (by omega)))
  · exact (h.below.grown hg h.below.size (fun b hb => by have := hlow b hb; omega)).setCell (by show w.heap.size ≤ gq; omega) _
theorem size25 : (Tryz.prog.info? 25).map (·.size) = some 2 := by kernel_rfl
theorem load25 (w : World) (g : Nat) (cs : List Value) (hr : Row w g 25 cs) (hl : cs.length = 2) : (loadVar 25 ⟨g, 0, none⟩).run Tryz.prog w = .ok (.agg cs.toArray) w :=
  run_loadVar_row w g 25 25 cs.toArray (0, 0) _ hr Tryz.underlying25 rfl (by rw [size25]; simp [hl])
theorem ret_ct25 {fn : Func} {p u : Tmp} (h : fn.results = #[.cell p 25, .tmp u]) (tmps : Array Value) (w : World) (g : Nat) (cs : List Value) (hp : tmps.getD p undef = .pointer (some ⟨g, 0, none⟩)) (hr : Row w g 25 cs) (hl : cs.length = 2) :
    (results fn tmps).run Tryz.prog w = .ok (.tuple #[.agg cs.toArray, tmps.getD u undef]) w := by
  rw [results_cell_tmp h, hp]
  simp [asAddr, Result.andThen, load25 w g cs hr hl]
theorem set2 {w : World} {g : Nat} {o0 o1 v0 v1 : Value} (h : Row w g 25 [o0, o1]) : Row ((w.setCell ⟨g, 0, none⟩ v0).setCell ⟨g, 1, none⟩ v1) g 25 [v0, v1] := by
  have := (h.set 0 v0).set 1 v1
  simpa using this
set_option maxRecDepth 20000 in
set_option maxHeartbeats 8000000 in
theorem program_bad (fs : List Fn) (gs : List ByteArray) (A GA : Option Addr) (fc gc : Nat) (w : World) (hF : FnsAt w A fs) (hG : Lies w GA (gs.map Value.string)) (G : GlobP w) (hS : Small fs gs) (hR : ¬ RightP fs gs) :
    Calls Tryz.prog 9 #[.agg #[.slice A fs.length fc, .slice GA gs.length gc]] w fun e w' => (∃ g, e = .returned (.tuple #[.agg #[.slice none 0 0, .slice none 0 0], .iface 59 (.pointer (some ⟨g, 0, none⟩))])) ∧ Below w.heap.size w w' := by
  have HRW := Lib.hid (fun (w1 : World) (hb : Below w.heap.size w w1) => right_walk fs gs A GA fc gc w1 (hF.below hb) (hG.below hb rfl) (G.below hb) hS)
  have HR := Lib.hid hR
  clear hF hG G hS hR
  go_enter Tryz.func9, Tryz.ntmps9
  go_wp2_with (go_at_call 18; refine (HRW.out _ (below2 w _ _)).mono ?_)
  rintro en w3 ⟨h, hb⟩
  rcases h with ⟨h, _⟩ | ⟨_, g, rfl⟩
  · exact absurd h HR.out
  · have R3 := (row_atOne w (.cells #[.slice A fs.length fc, .slice GA gs.length gc] 25) 25 [.slice none 0 0, .slice none 0 0]).below hb (row_atOne w _ 25 _).lt
    have B3 := Lib.hid (below_more (below2 w _ _) hb (below2 w _ _).size)
    have a0 := R3.cell 0
    have a1 := R3.cell 1
    have af := R3.free
    have hz := R3.lt
    have R3H := Lib.hid R3
    clear R3 hb
    go_wp2_with fail
    exact bodyPost_ret (ret_ct25 rfl _ _ (w.heap.size + 1) _ rfl (set2 R3H.out) rfl) rfl ⟨⟨g, rfl⟩, (B3.out.setCell (Nat.le_succ _) _).setCell (Nat.le_succ _) _⟩
end Go.Proofs.YtmecmlpoallpcaaGreatDoor

/- peep.Program of right code: the walk. -/
namespace Go.Proofs.YtmecmlpoallpcaaGreatDoor
set_option linter.unusedVariables false
open Go.RowKit Go.Proofs.PeepPlain

theorem far_row {w w' : World} {g : Nat} {t : TypeId} {cs : List Value} (h : Row w g t cs) (hf : w'.heap[g]? = w.heap[g]?) : Row w' g t cs := hf.trans h
theorem prog_start {fs : List Fn} {gs : List ByteArray} {w w4 w5 : World} {GA' : Option Addr} {gc' : Nat} {p0 p1 : Value} (hp : Row w4 w.heap.size 25 [p0, p1]) (hz : Row w4 (w.heap.size + 1) 25 [.slice none 0 0, .slice none 0 0]) (hb : Below w.heap.size w w4) (ht : Lies w4 GA' (gs.map Value.string)) (hlow : ∀ a, GA' = some a → w.heap.size + 1 < a.block ∧ a.block < w4.heap.size)
    (hr5 : Row w5 w4.heap.size 25 [.slice none 0 0, .slice GA' gs.length gc']) (hb5 : ∀ B, B ≤ w4.heap.size → Below B (w4.alloc (.cells #[.slice none 0 0, .slice none 0 0] 25)) w5) (hf5 : ∀ k, k ≠ w4.heap.size → w5.heap[k]? = (w4.alloc (.cells #[.slice none 0 0, .slice none 0 0] 25)).heap[k]?) :
    ProgR fs gs w w4.heap.size p0 p1 GA' gc' 0 w5 [] (.slice none 0 0) := by
  have l1 := hp.lt
  have l2 := hz.lt
  refine ⟨far_row (hp.alloc _) (hf5 _ (by omega)), far_row (hz.alloc _) (hf5 _ (by omega)), hr5, World.ownsRow_nil _ _ _ _, ⟨by simp, fun i hi => by simp at hi⟩, fun f hf => by simp at hf, ?_, hlow, (hb.alloc (by omega) _).trans (hb5 _ (by omega)), ⟨l2, hr5.lt⟩⟩
  have h5 := hr5.lt
  refine Lies.moved ht (by omega) fun a ha => ?_
  have := hlow a ha
  exact (hf5 _ (by omega)).trans (row_old w4 _ a.block this.2)
theorem prog_done {fs : List Fn} {gs : List ByteArray} {w wr : World} {gq : Nat} {p0 p1 : Value} {GA' : Option Addr} {gc' : Nat} {fk : List Fn} {A' : Option Addr} {c' : Nat} (h : ProgR fs gs w gq p0 p1 GA' gc' fs.length wr fk (.slice A' fk.length c')) (hl : Lies wr A' (flatFn fk)) (hlow : ∀ a, A' = some a → gq + 1 ≤ a.block) (v0 v1 : Value) :
    ProgPost fs gs w (.returned (.tuple #[.agg #[.slice A' fk.length c', .slice GA' gs.length gc'], .nilIface])) ((wr.setCell ⟨w.heap.size + 1, 0, none⟩ v0).setCell ⟨w.heap.size + 1, 1, none⟩ v1) := by
  have hq := h.gq
  have hs : ((wr.setCell ⟨w.heap.size + 1, 0, none⟩ v0).setCell ⟨w.heap.size + 1, 1, none⟩ v1).heap.size = wr.heap.size := by simp [World.setCell]
  have hfar : ∀ b, b ≠ w.heap.size + 1 → ((wr.setCell ⟨w.heap.size + 1, 0, none⟩ v0).setCell ⟨w.heap.size + 1, 1, none⟩ v1).heap[b]? = wr.heap[b]? := fun b hb => (heap_setCell_other _ _ _ _ (by exact hb)).trans (heap_setCell_other _ _ _ _ (by exact hb))
  have hP : ∀ f ∈ fk, PartAt (gq + 1) ((wr.setCell ⟨w.heap.size + 1, 0, none⟩ v0).setCell ⟨w.heap.size + 1, 1, none⟩ v1) f := fun f hf => ((h.parts f hf).1.set (by omega) v0).set (by omega) v1
  have hM := h.made
  rw [List.take_length] at hM
  refine ⟨fk, A', c', GA', gc', rfl, ⟨Lies.moved hl (by omega) fun a ha => hfar _ (by have := hlow a ha; omega), fun f hf => (hP f hf).code, fun f hf => (hP f hf).taken⟩, Lies.moved h.texts (by omega) fun a ha => hfar _ (by have := h.low a ha; omega), hM, (h.below.setCell (Nat.le_succ _) _).setCell (Nat.le_succ _) _, fun a ha => by have := hlow a ha; omega, fun a ha => by have := h.low a ha; omega, fun f hf => ?_⟩
  have := hP f hf
  exact ⟨this.code, this.taken, fun a ha => ⟨by have := (this.lowC a ha).1; omega, (this.lowC a ha).2⟩, fun a ha => ⟨by have := (this.lowT a ha).1; omega, (this.lowT a ha).2⟩⟩
noncomputable def madeFn (o : Fn) (T' : Option Addr) (tc' gC cC : Nat) : Fn := ⟨o.name, o.params, o.slots, T', o.taken, tc', o.around, some ⟨gC, 0, none⟩, shorter o0_fair o.code, cC⟩
theorem low_of_alloc {w : World} {o : Obj} {b : Nat} (h : (w.alloc o).heap.size ≤ b) : w.heap.size < b := by
  have e : (w.alloc o).heap.size = w.heap.size + 1 := by show (w.heap.push _).size = _; rw [Array.size_push]
  omega
theorem len_code {fs : List Fn} {gs : List ByteArray} (R : RightP fs gs) {k : Nat} (hk : k < fs.length) : fs[k].code.length ≤ 100000 := by
  have m := (many_are R.many).2.2.2.1
  have a := sumTo_all fs (k := k + 1) hk
  rw [sumTo_succ fs k hk] at a
  omega
set_option maxRecDepth 20000 in
set_option maxHeartbeats 8000000 in
theorem program_good (fs : List Fn) (gs : List ByteArray) (A GA : Option Addr) (fc gc : Nat) (w : World) (hF : FnsAt w A fs) (hG : Lies w GA (gs.map Value.string)) (G : ∀ wx, Below w.heap.size w wx → GlobP wx ∧ OwnG wx) (hS : Small fs gs) (hR : RightP fs gs) :
    Calls Tryz.prog 9 #[.agg #[.slice A fs.length fc, .slice GA gs.length gc]] w (ProgPost fs gs w) := by
  have HRW := Lib.hid (fun (w1 : World) (hb : Below w.heap.size w w1) => right_walk fs gs A GA fc gc w1 (hF.below hb) (hG.below hb rfl) (G w1 hb).1 hS)
  have HCT := Lib.hid (fun (w1 : World) (hb : Below w.heap.size w w1) => clone_texts GA gc gs w1 (hG.below hb rfl) hS.ng)
  have HR := Lib.hid hR
  have HF0 := Lib.hid hF
  have HG := Lib.hid G
  have HS := Lib.hid hS
  clear hF hG G hS hR
  go_enter Tryz.func9, Tryz.ntmps9
  go_wp2_with (go_at_call 18; refine (HRW.out _ (below2 w _ _)).mono ?_)
  rintro en w3 ⟨h, hb⟩
  rcases h with ⟨_, rfl⟩ | ⟨h, _⟩
  rotate_left
  · exact absurd HR.out h
  have z3 := (row_atOne w (.cells #[.slice A fs.length fc, .slice GA gs.length gc] 25) 25 [.slice none 0 0, .slice none 0 0]).below hb (row_atOne w _ 25 _).lt
  have r3 : Row w3 w.heap.size 25 [.slice A fs.length fc, .slice GA gs.length gc] := ((Row.made w 25 [.slice A fs.length fc, .slice GA gs.length gc]).alloc _).below hb ((Row.made w 25 [.slice A fs.length fc, .slice GA gs.length gc]).alloc _).lt
  have B3 := Lib.hid (below_more (below2 w _ _) hb (below2 w _ _).size)
  have a0 := r3.cell 0
  have a1 := r3.cell 1
  have hz := z3.lt
  have Z3 := Lib.hid z3
  have R3 := Lib.hid r3
  have LR := Lib.hid hz
  clear z3 r3 hb HRW
  go_wp2_with (first
    | (go_at_call 24; refine (HCT.out _ B3.out).mono ?_; rintro en w4 ⟨GA', gc', rfl, ht, hlow, hb⟩
       have R4 := Lib.hid (R3.out.below hb R3.out.lt)
       have Z4 := Lib.hid (Z3.out.below hb Z3.out.lt)
       have B4 := Lib.hid (below_more B3.out hb B3.out.size)
       have HT4 := Lib.hid ht
       have HL4 := Lib.hid (show ∀ a, GA' = some a → w.heap.size + 1 < a.block ∧ a.block < w4.heap.size from fun a ha => by have := hlow a ha; have := LR.out; omega)
       clear ht hlow hb)
    | (refine put_at (.tmp 5) (.tmp 17) 25 w4.heap.size 0 25 [.slice none 0 0, .slice none 0 0] [.slice none 0 0, .slice GA' gs.length gc'] _ _ rfl rfl rfl rfl rfl size25 (by simp [Value.oneCell']) (Row.made w4 25 _) (by simp) ?_; intro w5 hr5 hb5 hf5
       have P5 := Lib.hid (prog_start (fs := fs) R4.out Z4.out B4.out HT4.out HL4.out hr5 hb5 hf5)
       have hq5 := P5.out.gq.2
       have b0 := P5.out.p.cell 0
       clear hr5 hb5 hf5))
  clear a0 a1 hz Z3 R3 LR B3 R4 Z4 B4 HT4 HL4 HCT
  generalize w4.heap.size = gq at P5 hq5
  go_loopw [7, 21] (fun z7 v wr => ∃ (k : Nat) (fk : List Fn) (vF : Value), v = .int .i64 k ∧ k ≤ fs.length ∧ Hid (ProgR fs gs w gq (.slice A fs.length fc) (.slice GA gs.length gc) GA' gc' k wr fk vF)) (fun _ v _ => fs.length - (intOf v).toNat)
  case atStart => exact ⟨0, _, _, rfl, Nat.zero_le _, P5⟩
  case round =>
    clear P5 hq5 b0
    rename World => wr
    obtain ⟨k, fk, vF, rfl, hk, HP⟩ := hrel
    have HF6 := Lib.hid (HF0.out.below HP.out.below)
    by_cases hlt : k < fs.length
    · obtain ⟨b, off, rfl, hbl, hc⟩ := HF6.out.at_ (by omega)
      obtain ⟨c0, c1, c2, c3, c4, c5⟩ := hc k hlt
      clear hc
      have hi : (0 : Int) ≤ (k : Int) ∧ (k : Int) < (fs.length : Int) := by omega
      have hmem : fs[k] ∈ fs := List.getElem_mem hlt
      have HTK := Lib.hid (fun (wx : World) (hb : Below wr.heap.size wr wx) => clone_ints fs[k].TA fs[k].tc fs[k].taken wx ((HF6.out.taken _ hmem).below hb rfl) (by have := ((many_are HR.out.many).2.2.2.2 k hlt).2; omega))
      have HSH := Lib.hid (fun (wx : World) (hb : Below wr.heap.size wr wx) => shorter_walk fs[k].code fs[k].CA fs[k].cc wx (HR.out.wf hlt) ((HF6.out.code _ hmem).below hb) (len_code HR.out hlt) (right_pi HR.out HS.out hlt) (fun wy hy => HG.out wy (below_more (below_more HP.out.below hb HP.out.below.size) hy (Nat.le_trans HP.out.below.size hb.size))))
      have HMK := Lib.hid (fun (T' : Option Addr) (tc' gC cC : Nat) => (⟨rfl, rfl, rfl, rfl, rfl, rfl⟩ : MadeOf fs[k] (madeFn fs[k] T' tc' gC cC)))
      have HLT := Lib.hid hlt
      have HFK := Lib.hid (show fk.length = k from by rw [HP.out.made.1, List.length_take]; omega)
      have HKL := Lib.hid (show k ≤ 2000000 from by have := HS.out.nf; omega)
      have hq := HP.out.q.lt
      have HMORE := Lib.hid (fun (wx w11 : World) (hb : Below wr.heap.size wr wx) (f : Fn) (hf : MadeOf fs[k] f) (g cap : Nat) => (HP.out.grow hb).more (w' := w11) (g := g) (cap := cap) hlt hf)
      generalize fs[k] = o at *
      have hnf := HS.out.nf
      clear hlt hmem
      go_wp2_with (first
        | (go_at_call 25; refine (HTK.out _ (below1 wr _)).mono ?_; rintro en w7 ⟨T', tc', rfl, ht, hlow, hb⟩
           have r7 : Row w7 wr.heap.size 47 [.string o.name, .int .i64 o.params, .int .i64 o.slots, .slice o.TA o.taken.length o.tc, .int .i64 o.around, .slice o.CA o.code.length o.cc] := (Row.made wr 47 [.string o.name, .int .i64 o.params, .int .i64 o.slots, .slice o.TA o.taken.length o.tc, .int .i64 o.around, .slice o.CA o.code.length o.cc]).below hb (Row.made wr 47 _).lt
           have R7 := Lib.hid r7
           have B7 := Lib.hid (below_more (below1 wr _) hb (below1 wr _).size)
           have HT7 := Lib.hid ht
           have hl7 : ∀ a, T' = some a → wr.heap.size < a.block ∧ a.block < w7.heap.size := fun a ha => ⟨low_of_alloc (hlow a ha).1, (hlow a ha).2⟩
           have HL7 := Lib.hid hl7
           have l7 := r7.lt
           clear ht hlow hb r7 hl7)
        | (refine put_at (.tmp 28) (.tmp 27) 44 wr.heap.size 3 47 [.string o.name, .int .i64 o.params, .int .i64 o.slots, .slice o.TA o.taken.length o.tc, .int .i64 o.around, .slice o.CA o.code.length o.cc] [.slice T' o.taken.length tc'] _ _ rfl rfl rfl rfl rfl size44 (by simp [Value.oneCell']) R7.out (by simp) ?_; intro w8 hr8 hb8 hf8
           have r8 : Row w8 wr.heap.size 47 [.string o.name, .int .i64 o.params, .int .i64 o.slots, .slice T' o.taken.length tc', .int .i64 o.around, .slice o.CA o.code.length o.cc] := hr8
           have R8 := Lib.hid r8
           have B8 := Lib.hid (B7.out.trans (hb8 _ (Nat.le_refl _)))
           have HT8 := Lib.hid (Lies.moved HT7.out (hb8 0 (Nat.zero_le _)).size fun a ha => hf8 _ (by have := HL7.out a ha; omega))
           have HL8 := Lib.hid (show ∀ a, T' = some a → wr.heap.size < a.block ∧ a.block < w8.heap.size from fun a ha => ⟨(HL7.out a ha).1, Nat.lt_of_lt_of_le (HL7.out a ha).2 (hb8 0 (Nat.zero_le _)).size⟩)
           have l8 := r8.lt
           have d5 := r8.cell 5
           clear r8 hr8 hb8 hf8)
        | (go_at_call 26; refine (HSH.out _ B8.out).mono ?_; rintro en w9 ⟨gC, cC, rfl, hr, hlow, hb⟩
           have R9 := Lib.hid (R8.out.below hb R8.out.lt)
           have B9 := Lib.hid (below_more B8.out hb B8.out.size)
           have HT9 := Lib.hid (HT8.out.below hb rfl)
           have HL9 := Lib.hid (show ∀ a, T' = some a → wr.heap.size < a.block ∧ a.block < w9.heap.size from fun a ha => ⟨(HL8.out a ha).1, Nat.lt_of_lt_of_le (HL8.out a ha).2 hb.size⟩)
           have HC9 := Lib.hid hr
           have HCL := Lib.hid (show wr.heap.size < gC from Nat.lt_of_lt_of_le l8 hlow)
           have l9 := R9.out.lt
           clear hr hlow hb)
        | (refine put_at (.tmp 32) (.tmp 31) 45 wr.heap.size 5 47 [.string o.name, .int .i64 o.params, .int .i64 o.slots, .slice T' o.taken.length tc', .int .i64 o.around, .slice o.CA o.code.length o.cc] [.slice (some ⟨gC, 0, none⟩) (shorter o0_fair o.code).length cC] _ _ rfl rfl rfl rfl rfl size45 (by simp [Value.oneCell']) R9.out (by simp) ?_; intro w10 hr10 hb10 hf10
           have r10 : Row w10 wr.heap.size 47 [.string o.name, .int .i64 o.params, .int .i64 o.slots, .slice T' o.taken.length tc', .int .i64 o.around, .slice (some ⟨gC, 0, none⟩) (shorter o0_fair o.code).length cC] := hr10
           have B10 := Lib.hid (B9.out.trans (hb10 _ (Nat.le_refl _)))
           have HT10 := Lib.hid (Lies.moved HT9.out (hb10 0 (Nat.zero_le _)).size fun a ha => hf10 _ (by have := HL9.out a ha; omega))
           have HL10 := Lib.hid (show ∀ a, T' = some a → wr.heap.size < a.block ∧ a.block < w10.heap.size from fun a ha => ⟨(HL9.out a ha).1, Nat.lt_of_lt_of_le (HL9.out a ha).2 (hb10 0 (Nat.zero_le _)).size⟩)
           have HC10 := Lib.hid (HC9.out.far (hf10 gC (by have := HCL.out; omega)))
           have l10 := r10.lt
           have q0 := (HP.out.grow B10.out).q.cell 0
           have ql := (HP.out.grow B10.out).q.lt
           have x0 := r10.cell 0
           have x1 := r10.cell 1
           have x2 := r10.cell 2
           have x3 := r10.cell 3
           have x4 := r10.cell 4
           have x5 := r10.cell 5
           clear r10 hr10 hb10 hf10 c0 c1 c2 c3 c4 c5 d5)
        | (at_builtin; refine put_f (.tmp 34) (.tmp 36) (gq + 1) vF fk (madeFn o T' tc' gC cC) w10 _ rfl rfl rfl (HP.out.grow B10.out).own rfl w10.heap.size rfl rfl (by rw [HFK.out]; exact HKL.out) (HP.out.grow B10.out).gq.2 ?_; intro g cap w11 ho11 hg11 hat hg11l
           have hne : some gq ≠ vF.ownBlock := fun e => by have := (World.ownsRow.lt HP.out.own gq e.symm).1; omega
           have Q11 := Lib.hid ((HP.out.grow B10.out).q.grown hg11 hne)
           have q1 := Q11.out.cell 0
           have q1f := Q11.out.free 0
           have q1l := Q11.out.lt
           have DONE := Lib.hid (HMORE.out w10 w11 B10.out _ (HMK.out T' tc' gC cC) g cap ho11 hg11 (hat.imp id (fun h => by omega)) ⟨HC10.out.insAt, HT10.out, fun a ha => by
             have e : a = ⟨gC, 0, none⟩ := by injection ha with e; exact e.symm
             subst e
             have h1 := HCL.out
             exact ⟨by show gq + 1 ≤ gC; omega, HC10.out.lt⟩, fun a ha => by have h1 := HL10.out a ha; omega⟩ (fun b hb => by
             have h2 := (World.ownsRow.lt HP.out.own b hb).2
             exact ⟨fun a ha => by
               have e : a = ⟨gC, 0, none⟩ := by injection ha with e; exact e.symm
               subst e
               have h1 := HCL.out
               show gC ≠ b
               omega, fun a ha => by have h1 := HL10.out a ha; omega⟩))
           clear ho11 hg11 hat q0 x0 x1 x2 x3 x4 x5))
      go_roundw
      case rel => exact ⟨k + 1, _, _, by go_num, HLT.out, DONE⟩
      case measure =>
        have h9 := HLT.out
        simp [intOf]
        omega
    · obtain rfl : k = fs.length := by omega
      obtain ⟨A', c', rfl, hl', hlow'⟩ := own_fns HP.out.own
      have e0 := HP.out.q.cell 0
      have e1 := HP.out.q.cell 1
      have ez0 := HP.out.z.cell 0
      have ez1 := HP.out.z.cell 1
      have ezf := HP.out.z.free
      have hzl := HP.out.z.lt
      have HL2 := Lib.hid hl'
      have HW2 := Lib.hid hlow'
      clear hl' hlow' HF6 HF0 HR HG HS
      go_wp2_with fail
      refine bodyPost_ret (ret_ct25 (u := 3) rfl _ _ (w.heap.size + 1) _ rfl (set2 HP.out.z) rfl) rfl ?_
      exact prog_done HP.out HL2.out HW2.out _ _
end Go.Proofs.YtmecmlpoallpcaaGreatDoor

/- peep.Saved (10). -/
namespace Go.Proofs.YtmecmlpoallpcaaGreatDoor
set_option linter.unusedVariables false
open Go.RowKit Go.Proofs.PeepPlain

/-- What peep.Saved answers to right code. -/
def SavedPost (fs : List Fn) (w : World) (e : Ending) (w' : World) : Prop :=
  ∃ (fs' : List Fn) (s : Int), Made fs fs' ∧ s = (sumTo fs fs.length : Int) - (sumTo fs' fs.length : Int) ∧ e = .returned (.tuple #[.int .i64 s, .nilIface]) ∧ Below w.heap.size w w'
theorem made_len {fs fs' : List Fn} {gs : List ByteArray} (R : RightP fs gs) (hM : Made fs fs') {k : Nat} (h : k < fs.length) (h' : k < fs'.length) : fs'[k].code.length ≤ fs[k].code.length := by
  rw [(hM.2 k h h').2.2.2.2.2]
  exact (shorter_done o0_fair _ fs[k].code (Nat.le_refl _) (R.wf h)).2
set_option maxRecDepth 20000 in
set_option maxHeartbeats 8000000 in
theorem saved_bad (fs : List Fn) (gs : List ByteArray) (A GA : Option Addr) (fc gc : Nat) (w : World) (hF : FnsAt w A fs) (hG : Lies w GA (gs.map Value.string)) (G : GlobP w) (hS : Small fs gs) (hR : ¬ RightP fs gs) :
    Calls Tryz.prog 10 #[.agg #[.slice A fs.length fc, .slice GA gs.length gc]] w fun e w' => (∃ g, e = .returned (.tuple #[.int .i64 0, .iface 59 (.pointer (some ⟨g, 0, none⟩))])) ∧ Below w.heap.size w w' := by
  have HPW := Lib.hid (fun (w1 : World) (hb : Below w.heap.size w w1) => program_bad fs gs A GA fc gc w1 (hF.below hb) (hG.below hb rfl) (G.below hb) hS hR)
  clear hF hG G hS hR
  go_enter Tryz.func10, Tryz.ntmps10
  go_wp2_with (go_at_call 9; refine (HPW.out _ (below1 w _)).mono ?_; rintro en w3 ⟨⟨g, rfl⟩, hb⟩
               have B3 := Lib.hid (below_more (below1 w _) hb (below1 w _).size)
               clear hb)
  refine bodyPost_ret (results_tmp2 rfl _ _ _) rfl ?_
  exact ⟨⟨g, rfl⟩, B3.out.alloc B3.out.size _⟩
set_option maxRecDepth 20000 in
set_option maxHeartbeats 8000000 in
theorem saved_good (fs : List Fn) (gs : List ByteArray) (A GA : Option Addr) (fc gc : Nat) (w : World) (hF : FnsAt w A fs) (hG : Lies w GA (gs.map Value.string)) (G : ∀ wx, Below w.heap.size w wx → GlobP wx ∧ OwnG wx) (hS : Small fs gs) (hR : RightP fs gs) :
    Calls Tryz.prog 10 #[.agg #[.slice A fs.length fc, .slice GA gs.length gc]] w (SavedPost fs w) := by
  have HPW := Lib.hid (fun (w1 : World) (hb : Below w.heap.size w w1) => program_good fs gs A GA fc gc w1 (hF.below hb) (hG.below hb rfl) (fun wx h => G wx (below_more hb h hb.size)) hS hR)
  have HR := Lib.hid hR
  have HF0 := Lib.hid hF
  have HS := Lib.hid hS
  clear hF hG G hS hR
  go_enter Tryz.func10, Tryz.ntmps10
  go_wp2_with (go_at_call 9; refine (HPW.out _ (below1 w _)).mono ?_; rintro en w3 ⟨fs', A', c', GA', gc', rfl, hF3, hG3, hM, hb, hlA, hlG, hP⟩
               have R3 := Lib.hid ((Row.made w 25 [.slice A fs.length fc, .slice GA gs.length gc]).below hb (Row.made w 25 [.slice A fs.length fc, .slice GA gs.length gc]).lt)
               have B3 := Lib.hid (below_more (below1 w _) hb (below1 w _).size)
               have F3 := Lib.hid hF3
               have HM := Lib.hid hM
               have a0 := R3.out.cell 0
               have hz := R3.out.lt
               clear hb hF3 hG3 hM hlA hlG hP)
  have R4 := Lib.hid (Row.made w3 25 [.slice A' fs'.length c', .slice GA' gs.length gc'])
  have S4 := Lib.hid (R3.out.alloc (.cells #[.slice A' fs'.length c', .slice GA' gs.length gc'] 25))
  have F4 := Lib.hid (F3.out.below (below1 w3 (.cells #[.slice A' fs'.length c', .slice GA' gs.length gc'] 25)))
  have H4 := Lib.hid ((HF0.out.below B3.out).below (below1 w3 (.cells #[.slice A' fs'.length c', .slice GA' gs.length gc'] 25)))
  have B4 := Lib.hid (B3.out.alloc B3.out.size (.cells #[.slice A' fs'.length c', .slice GA' gs.length gc'] 25))
  clear R3 F3 B3 HPW a0
  generalize w3.alloc (.cells #[.slice A' fs'.length c', .slice GA' gs.length gc'] 25) = w4 at R4 S4 F4 H4 B4
  generalize w3.heap.size = gr at R4 hz
  clear hz
  go_loopw [6, 7, 19] (fun z6 z7 v wr => ∃ (k : Nat) (s : Int), v = .int .i64 k ∧ z6 = .int .i64 s ∧ k ≤ fs.length ∧ s = (sumTo fs k : Int) - (sumTo fs' k : Int) ∧ Hid (Row wr gr 25 [.slice A' fs'.length c', .slice GA' gs.length gc']) ∧ Hid (Row wr w.heap.size 25 [.slice A fs.length fc, .slice GA gs.length gc]) ∧ Hid (FnsAt wr A' fs') ∧ Hid (FnsAt wr A fs) ∧ Hid (Below w.heap.size w wr)) (fun _ _ v _ => fs.length - (intOf v).toNat)
  case atStart => exact ⟨0, 0, rfl, rfl, Nat.zero_le _, by simp [sumTo], R4, S4, F4, H4, B4⟩
  case round =>
    clear R4 S4 F4 H4 B4
    obtain ⟨k, s, rfl, rfl, hk, hs, R4, S4, F4, H4, B4⟩ := hrel
    have hl := HM.out.1
    have hnf := HS.out.nf
    by_cases hlt : k < fs.length
    · have hlt' : k < fs'.length := by omega
      obtain ⟨b, off, rfl, hbl, hc⟩ := H4.out.at_ (by omega)
      obtain ⟨c0, c1, c2, c3, c4, c5⟩ := hc k hlt
      obtain ⟨b', off', rfl, hbl', hc'⟩ := F4.out.at_ (by omega)
      obtain ⟨d0, d1, d2, d3, d4, d5⟩ := hc' k hlt'
      clear c0 c1 c2 c3 c4 d0 d1 d2 d3 d4 hc hc'
      have p0 := S4.out.cell 0
      have q0 := R4.out.cell 0
      have hp := S4.out.lt
      have hq := R4.out.lt
      have hi : (0 : Int) ≤ (k : Int) ∧ (k : Int) < (fs.length : Int) := by omega
      have hi' : (0 : Int) ≤ (k : Int) ∧ (k : Int) < (fs'.length : Int) := by omega
      have m := (many_are HR.out.many).2.2.2.1
      have e1 := sumTo_succ fs k hlt
      have e2 := sumTo_succ fs' k hlt'
      have e3 := sumTo_all fs (show k + 1 ≤ fs.length by omega)
      have e4 := made_len HR.out HM.out hlt hlt'
      have e5 := made_sum HM.out (fun i hi hi' => made_len HR.out HM.out hi hi') k (by omega)
      have hw1 : wrap64 ((fs[k].code.length : Int) - (fs'[k].code.length : Int)) = (fs[k].code.length : Int) - (fs'[k].code.length : Int) := by unfold wrap64; omega
      have hw2 : wrap64 (s + ((fs[k].code.length : Int) - (fs'[k].code.length : Int))) = (sumTo fs (k + 1) : Int) - (sumTo fs' (k + 1) : Int) := by unfold wrap64; omega
      clear m e1 e2 e3 e4 e5 hs
      generalize fs[k] = o at c5 hw1 hw2
      generalize fs'[k] = o' at d5 hw1 hw2
      go_wp2_with fail
      go_quiet (fail)
      go_wp2_with fail
      go_roundw
      case rel => exact ⟨k + 1, _, by go_num, by rw [hw2], by omega, rfl, R4.out.drewN nq, S4.out.drewN nq, F4.out.below (below_drewN (Below.refl _ _) nq), H4.out.below (below_drewN (Below.refl _ _) nq), below_drewN B4.out nq⟩
      case measure => simp [intOf]; omega
    · obtain rfl : k = fs.length := by omega
      go_wp2_with fail
      refine bodyPost_ret (results_tmp2 rfl _ _ _) rfl ?_
      exact ⟨fs', s, HM.out, hs, rfl, B4.out⟩
end Go.Proofs.YtmecmlpoallpcaaGreatDoor

/- guiselaw15.known (5). -/
namespace Go.Proofs.YtmecmlpoallpcaaGreatDoor
set_option linter.unusedVariables false
open Go.RowKit Go.Proofs.PeepPlain

abbrev kw1 (w : World) : World := w.alloc (.cells #[.int .i64 3, .int .i64 0, .int .i64 0, .string ⟨#[49]⟩, .int .i64 0, .int .i64 3, .int .i64 0, .int .i64 0, .string ⟨#[50]⟩, .int .i64 0, .int .i64 19, .int .i64 0, .int .i64 0, .string ⟨#[43]⟩, .int .i64 0, .int .i64 50, .int .i64 0, .int .i64 0, .string ⟨#[]⟩, .int .i64 0] 50)
abbrev kw2 (w : World) : World := (kw1 w).alloc (.cells #[.string ⟨#[]⟩, .int .i64 0, .int .i64 1, .slice none 0 0, .int .i64 (-1), .slice (some ⟨w.heap.size, 0, none⟩) 4 4] 47)
abbrev kw3 (w : World) : World := (kw2 w).alloc (.cells #[.slice (some ⟨w.heap.size + 1, 0, none⟩) 1 1, .slice none 0 0] 25)
structure KnownAt (w wx : World) : Prop where
  fns : FnsAt wx (some ⟨w.heap.size + 1, 0, none⟩) [kFn (some ⟨w.heap.size, 0, none⟩)]
  row : Row wx (w.heap.size + 2) 25 [.slice (some ⟨w.heap.size + 1, 0, none⟩) 1 1, .slice none 0 0]
  below : Below w.heap.size w wx
theorem lies_row {w : World} {g : Nat} {t : TypeId} {cs : List Value} (h : Row w g t cs) : Lies w (some ⟨g, 0, none⟩) cs := fun _ => ⟨g, 0, rfl, h.lt, fun j u hu => by rw [Nat.zero_add, h.cell j]; exact hu⟩
theorem known_at (w : World) : KnownAt w (kw3 w) := by
  have s1 : (kw1 w).heap.size = w.heap.size + 1 := by show (w.heap.push _).size = _; rw [Array.size_push]
  have s2 : (kw2 w).heap.size = w.heap.size + 2 := by show ((kw1 w).heap.push _).size = _; rw [Array.size_push, s1]
  have r1 : Row (kw1 w) w.heap.size 50 (flatI kc) := Row.made w 50 (flatI kc)
  have r2 : Row (kw2 w) (w.heap.size + 1) 47 (flatFn [kFn (some ⟨w.heap.size, 0, none⟩)]) := by
    have := Row.made (kw1 w) 47 (flatFn [kFn (some ⟨w.heap.size, 0, none⟩)])
    rw [s1] at this
    exact this
  have r3 : Row (kw3 w) (w.heap.size + 2) 25 [.slice (some ⟨w.heap.size + 1, 0, none⟩) 1 1, .slice none 0 0] := by
    have := Row.made (kw2 w) 25 [.slice (some ⟨w.heap.size + 1, 0, none⟩) 1 1, .slice none 0 0]
    rw [s2] at this
    exact this
  refine ⟨⟨lies_row (r2.alloc _), fun f hf => ?_, fun f hf => ?_⟩, r3, below3 w _ _ _⟩
  · have e : f = kFn (some ⟨w.heap.size, 0, none⟩) := by simpa using hf
    subst e
    exact lies_row ((r1.alloc _).alloc _)
  · have e : f = kFn (some ⟨w.heap.size, 0, none⟩) := by simpa using hf
    subst e
    exact Lies.none_ _ _
def KnPost (w : World) (e : Ending) (w' : World) : Prop := e = .returned (.bool true) ∧ Below w.heap.size w w'
set_option maxRecDepth 20000 in
set_option maxHeartbeats 4000000 in
theorem known_walk (w : World) (G : ∀ wx, Below w.heap.size w wx → GlobP wx ∧ OwnG wx) : Calls Tryz.prog 5 #[] w (KnPost w) := by
  have HP := Lib.hid (fun (wx : World) (h : KnownAt w wx) => program_good [kFn (some ⟨w.heap.size, 0, none⟩)] [] (some ⟨w.heap.size + 1, 0, none⟩) none 1 0 wx h.fns (Lies.none_ _ _) (fun wy hy => G wy (below_more h.below hy h.below.size)) (k_small _) (k_right _))
  have HS := Lib.hid (fun (wx wy : World) (h : KnownAt w wx) (hb : Below wx.heap.size wx wy) => saved_good [kFn (some ⟨w.heap.size, 0, none⟩)] [] (some ⟨w.heap.size + 1, 0, none⟩) none 1 0 wy (h.fns.below hb) (Lies.none_ _ _) (fun wz hz => G wz (below_more (below_more h.below hb h.below.size) hz (Nat.le_trans h.below.size hb.size))) (k_small _) (k_right _))
  have HK := Lib.hid (known_at w)
  clear G
  go_enter Tryz.func5, Tryz.ntmps5
  go_wp2_with (go_at_call 9; refine (HP.out _ HK.out).mono ?_)
  rintro en w4 ⟨fs', A', c', GA', gc', rfl, hF4, hG4, hM, hb, hlA, hlG, hP⟩
  obtain ⟨f', rfl⟩ : ∃ f', fs' = [f'] := List.length_eq_one_iff.1 hM.1
  have hcode : f'.code = kd := (hM.2 0 Nat.one_pos Nat.one_pos).2.2.2.2.2.trans kc_shorter
  have KA := Lib.hid (known_at w)
  have R4 := Lib.hid (KA.out.row.below hb KA.out.row.lt)
  have B34 := Lib.hid hb
  have F4 := Lib.hid hF4
  have HCD := Lib.hid hcode
  have a0 := R4.out.cell 0
  have a1 := R4.out.cell 1
  have hz := R4.out.lt
  clear hF4 hG4 hM hb hlA hlG hP hcode HP
  generalize kw3 w = w3 at KA B34
  go_wp2_with (go_at_call 10; refine (HS.out _ _ KA.out (B34.out.alloc B34.out.size _)).mono ?_)
  rintro en w6 ⟨fs2, s, hM2, hs, rfl, hb6⟩
  obtain ⟨f2, rfl⟩ : ∃ f2, fs2 = [f2] := List.length_eq_one_iff.1 hM2.1
  have hcode2 : f2.code = kd := (hM2.2 0 Nat.one_pos Nat.one_pos).2.2.2.2.2.trans kc_shorter
  have hs2 : s = 2 := by
    rw [hs]
    show ((sumTo [kFn (some ⟨w.heap.size, 0, none⟩)] 1 : Nat) : Int) - ((sumTo [f2] 1 : Nat) : Int) = 2
    rw [show sumTo [f2] 1 = f2.code.length from by simp [sumTo], hcode2, show sumTo [kFn (some ⟨w.heap.size, 0, none⟩)] 1 = 4 from by simp [sumTo, kFn, kc]]
    rfl
  subst hs2
  have R6 := Lib.hid ((Row.made w4 25 [.slice A' 1 c', .slice GA' 0 gc']).below hb6 (Row.made w4 25 _).lt)
  have F6 := Lib.hid ((F4.out.below (below1 w4 (.cells #[.slice A' 1 c', .slice GA' 0 gc'] 25))).below hb6)
  have B6 := Lib.hid (below_more KA.out.below (below_more (B34.out.alloc B34.out.size (.cells #[.slice A' 1 c', .slice GA' 0 gc'] 25)) hb6 (Nat.le_trans B34.out.size (by simp))) KA.out.below.size)
  obtain ⟨b, off, rfl, hbl, hc⟩ := F6.out.at_ Nat.one_pos
  have c5 := (hc 0 Nat.one_pos).2.2.2.2.2
  have hI := F6.out.code f' (by simp)
  rw [HCD.out] at hI
  obtain ⟨b2, off2, hCA, hbl2, hd⟩ := hI.at_ (by decide)
  have d0 := (hd 0 (by decide)).1
  have d3 := (hd 0 (by decide)).2.2.2.1
  have d1 := (hd 1 (by decide)).1
  have c6 : w6.cell? ⟨b, off + 5, none⟩ = some (.slice (some ⟨b2, off2, none⟩) 2 f'.cc) := by
    have : w6.cell? ⟨b, off + 0 * 6 + 5, none⟩ = some (.slice f'.CA f'.code.length f'.cc) := c5
    rw [HCD.out, hCA] at this
    simpa [kd] using this
  have d0' : w6.cell? ⟨b2, off2, none⟩ = some (.int .i64 3) := by simpa [kd] using d0
  have d3' : w6.cell? ⟨b2, off2 + 3, none⟩ = some (.string ⟨#[51]⟩) := by simpa [kd] using d3
  have d1' : w6.cell? ⟨b2, off2 + 5, none⟩ = some (.int .i64 50) := by simpa [kd] using d1
  have q0 := R6.out.cell 0
  have hq := R6.out.lt
  clear c5 d0 d3 d1 hd hc hI a0 a1 hz hb6 hM2 hs hcode2
  go_wp2_with fail
  go_ret
  exact ⟨rfl, B6.out⟩
end Go.Proofs.YtmecmlpoallpcaaGreatDoor
