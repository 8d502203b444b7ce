/- The walk of guiselaw17.examples. -/
import Derived.Test.YtcalmojhdpagoaaDoorCalls
import Derived.Test.YtcalmojhdpagoaaDoorRefLines
import Derived.Test.YtcalmojhdpagoaaDoorD10
import Derived.Test.YtcalmojhdpagoaaDoorLent
import Derived.Test.YtcalmojhdpagoaaDoorDigits
namespace Go.Proofs.YtcalmojhdpagoaaDoor
set_option linter.unusedVariables false
open Go.RowKit

@[go_sem] theorem build33_ks (k : Int) (s : ByteArray) (w : World) : (Instr.build 33 #[(0, .int .i64 k), (2, .string s)]).run Tryd.prog w = .ok (.agg #[.int .i64 k, .int .i64 0, .string s]) w := run_build w 33 _ _ (by kernel_rfl)
@[go_sem] theorem build33_kp (k p : Int) (w : World) : (Instr.build 33 #[(0, .int .i64 k), (1, .int .i64 p)]).run Tryd.prog w = .ok (.agg #[.int .i64 k, .int .i64 p, .string ⟨#[]⟩]) w := run_build w 33 _ _ (by kernel_rfl)
@[go_sem] theorem build33_kps (k p : Int) (s : ByteArray) (w : World) : (Instr.build 33 #[(0, .int .i64 k), (1, .int .i64 p), (2, .string s)]).run Tryd.prog w = .ok (.agg #[.int .i64 k, .int .i64 p, .string s]) w := run_build w 33 _ _ (by kernel_rfl)

/-- append(s, l2...), s the call's own events, l2 a block that is known whole. -/
theorem put_evs {ops : Array Oper} {rest : List Oper} {o : Oper} {a : Act} {Q : Exit → Act → World → Prop} (s x : Operand) (Bo : Nat) (v : Value) (l l2 : List Ev) (g c2 : Nat) (w : World)
    (hgd : o.guard = none) (ho : o.op = .call { callee := .builtin .append, args := #[s, x], argTypes := #[22, 22] })
    (hs : a.eval s = v) (hown : w.ownsRow Bo 33 3 v l.length (flat l)) (hx : a.eval x = .slice (some ⟨g, 0, none⟩) l2.length c2) (hg : Row w g 33 (flat l2))
    (hlim : (l.length + l2.length) * 32 ≤ 140737488355328) (hbase : Bo ≤ w.heap.size)
    (h : ∀ v' w', w'.ownsRow Bo 33 3 v' (l ++ l2).length (flat (l ++ l2)) → KeptX [33] Bo w w' → wpList Tryd.prog ops Q rest (a.put o.dst v') w') : wpList Tryd.prog ops Q (o :: rest) a w := by
  obtain ⟨i0, hi, hz0, hz1, hz2⟩ := info_parts info33
  refine wpList_append_own w hgd s x 22 ho Bo 33 i0 _ 3 32 Tryd.underlying22 hi hz0 hz1 hz2 rfl (by decide) v l.length (flat l) hs hown ⟨g, 0, none⟩ l2.length c2 (flat l2) hx (flat_length l2) ?_ (flat_one l2) (by simp only [maxLen]; omega) hlim hbase ?_
  · intro j u hu
    rw [Addr.add_lit, Nat.zero_add, hg.cell]
    exact hu
  · intro v' w' hown' hgr _
    refine h v' w' ?_ ((KeptX.refl _ _ _).grown hown (by simp) hgr (Nat.le_refl _) hbase)
    rw [List.length_append, flat_append]
    exact hown'

def sMain : ByteArray := ⟨#[109, 97, 105, 110]⟩
def sF : ByteArray := ⟨#[102]⟩
def sAB : ByteArray := ⟨#[97, 10, 98]⟩
def ex4 : List Ev := [⟨2, 0, ⟨#[109, 97, 105, 110]⟩⟩, ⟨1, 0, ⟨#[]⟩⟩, ⟨2, 3, ⟨#[102]⟩⟩, ⟨1, 2, ⟨#[]⟩⟩]
def ex1 : List Ev := [⟨3, 3, ⟨#[102]⟩⟩]
theorem ex_dif4 : dif ex4 (ex4 ++ ex1) = 4 := by kernel_rfl
theorem ex_dif1 : dif ex4 ex4 = -1 := by kernel_rfl
theorem ex_line : lineOf ⟨#[97, 10, 98]⟩ 3 = 1 := by kernel_rfl
theorem ex_lns : lns ⟨#[97, 10, 98]⟩ ex4 = [1, 1] := by kernel_rfl
theorem ex_run : (runT (ex4 ++ ex1)).all.map Rec.cl = [⟨1, ⟨#[109, 97, 105, 110]⟩, 0, false⟩, ⟨2, ⟨#[102]⟩, 3, true⟩] := by kernel_rfl
theorem ex_out : outOf ((runT ((ex4 ++ ex1).take 200000)).all.map Rec.cl) = [49, 32, 109, 97, 105, 110, 32, 33, 10, 50, 32, 102, 10] := by
  rw [List.take_of_length_le (by simp [ex4, ex1]), ex_run]
  have h1 : Lib.itoa ((1 : Nat) : Int) = [49] := by rw [Lib.itoa_nonneg, Lib.decDigits_one (by omega)]; rfl
  have h2 : Lib.itoa ((2 : Nat) : Int) = [50] := by rw [Lib.itoa_nonneg, Lib.decDigits_one (by omega)]; rfl
  simp only [outOf, List.flatMap_cons, List.flatMap_nil, Cl.line, h1, h2]
  rfl
theorem own_evs {w : World} {B n c : Nat} {A : Option Addr} {l : List Ev} (h : w.ownsRow B 33 3 (.slice A n c) n (flat l)) (hl : n = l.length) : Evs w A l := by
  intro h0
  rw [flat_length] at h0
  obtain ⟨g, rfl, _⟩ := own_addr h (by omega)
  refine ⟨g, 0, rfl, (h.lt g rfl).2, fun j u hu => ?_⟩
  have := h.cells (g := g) rfl j u hu
  rwa [Addr.add_lit] at this

theorem ex_lines (w : World) (A : Option Addr) (h : Evs w A ex4) : Calls Tryd.prog 13 #[.string ⟨#[97, 10, 98]⟩, .slice A 4 4] w fun e w' => e = .returned (.slice (some ⟨w.heap.size + 1, 0, none⟩) 2 2) ∧ Row w' (w.heap.size + 1) 3 [.int .i64 1, .int .i64 1] ∧ Below w.heap.size w w' := by
  refine (lines_short ⟨#[97, 10, 98]⟩ A 4 ex4 w h (by decide) (by decide)).mono ?_
  rintro e w' ⟨rfl, h1, h2⟩
  have e1 : lineOf ⟨#[97, 10, 98]⟩ (ByteArray.size ⟨#[97, 10, 98]⟩) = 1 := ex_line
  rw [ex_lns] at h1
  exact ⟨by rw [e1], h1, h2⟩
theorem ex_differs (w : World) (A B : Option Addr) (c : Nat) (h : Evs w A ex4) (h2 : Evs w B (ex4 ++ ex1)) : Calls Tryd.prog 10 #[.slice A 4 4, .slice B 5 c] w fun e w' => e = .returned (.int .i64 4) ∧ ∃ n, w.drewN n = w' := by
  have := differ_any A B 4 c ex4 (ex4 ++ ex1) w h h2 (by decide) (by decide)
  rwa [ex_dif4] at this
theorem ex_same (w : World) (A : Option Addr) (h : Evs w A ex4) : Calls Tryd.prog 10 #[.slice A 4 4, .slice A 4 4] w fun e w' => e = .returned (.int .i64 (-1)) ∧ ∃ n, w.drewN n = w' := by
  have := differ_any A A 4 4 ex4 ex4 w h h (by decide) (by decide)
  rwa [ex_dif1] at this
theorem ex_calls (w : World) (B : Option Addr) (c : Nat) (h2 : Evs w B (ex4 ++ ex1)) (hc : 5 ≤ c) (hm : c ≤ 9223372036854775807) (htab : Lib.TabIs Tryd.prog w "internal/strconv.uint64pow10" .u64 Lib.pow10Tab) :
    Calls Tryd.prog 14 #[.slice B 5 c] w fun e w' => e = .returned (.string ⟨#[49, 32, 109, 97, 105, 110, 32, 33, 10, 50, 32, 102, 10]⟩) ∧ Below w.heap.size w w' := by
  have := calls_any w B c (ex4 ++ ex1) h2 hc hm htab
  rwa [ex_out] at this

set_option maxHeartbeats 2000000 in
theorem examples_any (w : World) (htab : Lib.TabIs Tryd.prog w "internal/strconv.uint64pow10" .u64 Lib.pow10Tab) :
    Calls Tryd.prog 7 #[] w fun en w' => en = .returned (.bool true) ∧ Below w.heap.size w w' := by
  have HTAB := Lib.hid (Lib.tabBelow_of_tabIs htab)
  have HR1 : Hid (Row (w.alloc (.cells #[.int .i64 2, .int .i64 0, .string ⟨#[109, 97, 105, 110]⟩, .int .i64 1, .int .i64 0, .string ⟨#[]⟩, .int .i64 2, .int .i64 3, .string ⟨#[102]⟩, .int .i64 1, .int .i64 2, .string ⟨#[]⟩] 33)) w.heap.size 33 (flat ex4)) := Row.made w 33 (flat ex4)
  have HB1 : Hid (Below w.heap.size w (w.alloc (.cells #[.int .i64 2, .int .i64 0, .string ⟨#[109, 97, 105, 110]⟩, .int .i64 1, .int .i64 0, .string ⟨#[]⟩, .int .i64 2, .int .i64 3, .string ⟨#[102]⟩, .int .i64 1, .int .i64 2, .string ⟨#[]⟩] 33))) := (Below.refl _ _).alloc (Nat.le_refl _) _
  clear htab
  go_enter Tryd.func7, Tryd.ntmps7
  go_wp2_with (first
    | (at_builtin; refine put_evs _ (.tmp 9) (w.heap.size + 1) _ [] ex4 w.heap.size 4 _ rfl rfl rfl (World.ownsRow_nil _ _ _ _) rfl HR1.out (by decide) (by simp) ?_; intro v2 w2 ho2 hk2
       have ho2' : w2.ownsRow (w.heap.size + 1) 33 3 v2 4 (flat ex4) := ho2
       have hr2 : Row w2 w.heap.size 33 (flat ex4) := HR1.out.below hk2.below (by omega)
       have hb2 : Below w.heap.size w w2 := HB1.out.trans (hk2.low (by omega)).below
       have hs2 : w.heap.size + 1 ≤ w2.heap.size := by have := hk2.size; simpa using this
       clear ho2 hk2
       obtain ⟨A2, c2, rfl⟩ := own_shape ho2')
    | (at_builtin; refine put_evs (.tmp 10) (.tmp 12) (w.heap.size + 1) _ ex4 ex1 w2.heap.size 1 _ rfl rfl rfl (ho2'.alloc _) rfl (Row.made w2 33 (flat ex1)) (by decide) (by simp; omega) ?_; intro v3 w3 ho3 hk3
       have ho3' : w3.ownsRow (w.heap.size + 1) 33 3 v3 5 (flat (ex4 ++ ex1)) := ho3
       have hr3 : Row w3 w.heap.size 33 (flat ex4) := (hr2.alloc _).below hk3.below (by omega)
       have hb3 : Below w.heap.size w w3 := (hb2.alloc (by omega) _).trans (hk3.low (by omega)).below
       clear ho3 hk3 ho2' hr2 hb2
       obtain ⟨A3, c3, rfl⟩ := own_shape ho3'
       have he3 : Evs w3 (some ⟨w.heap.size, 0, none⟩) ex4 := Lies.row hr3 (fun j u h => h)
       have hm3 : Evs w3 A3 (ex4 ++ ex1) := own_evs ho3' rfl
       have hcap := own_cap ho3'
       have hli := ex_lines w3 _ he3)
    | (go_at_call 13; refine hli.mono ?_; rintro en w4 ⟨rfl, hr4, hb4⟩
       have he4 : Evs w4 (some ⟨w.heap.size, 0, none⟩) ex4 := he3.below hb4 rfl
       have hm4 : Evs w4 A3 (ex4 ++ ex1) := hm3.below hb4 rfl
       have hb4' : Below w.heap.size w w4 := hb3.trans (KeptX.low (KeptX.ofBelow [] hb4 (Nat.le_refl _)) hb3.size).below
       have hd4 := ex_differs w4 _ A3 c3 he4 hm4
       have HD1 := Lib.hid (fun n => ex_same (w4.drewN n) _ (he4.drewN n))
       have HC1 := Lib.hid (fun n => ex_calls (w4.drewN n) A3 c3 (hm4.drewN n) hcap.1 (by have := hcap.2.1; simp only [maxLen] at this; omega) (HTAB.out _ (below_drewN hb4' n))))
    | (go_at_call 10; with_reducible (refine hd4.mono ?_); rintro en w5 ⟨rfl, n1, rfl⟩)
    | (go_at_call 10; with_reducible (refine (HD1.out _).mono ?_); rintro en w6 ⟨rfl, n2, rfl⟩)
    | (go_at_call 14; first | (with_reducible (refine (HC1.out _).mono ?_)) | (rw [World.drewN_drewN]; with_reducible (refine (HC1.out _).mono ?_))
       rintro en w7 ⟨rfl, hb7⟩
       have hr7 : Row w7 (w3.heap.size + 1) 3 [.int .i64 1, .int .i64 1] := (hr4.drewN _).below hb7 hr4.lt
       have hb7' : Below w.heap.size w w7 := (below_drewN hb4' _).trans (KeptX.low (KeptX.ofBelow [] hb7 (Nat.le_refl _)) hb4'.size).below
       have l0 := hr7.cell 0
       have l1 := hr7.cell 1
       simp only [List.getElem?_cons_zero, List.getElem?_cons_succ] at l0 l1))
  go_ret
  exact ⟨rfl, hb7'⟩
end Go.Proofs.YtcalmojhdpagoaaDoor
