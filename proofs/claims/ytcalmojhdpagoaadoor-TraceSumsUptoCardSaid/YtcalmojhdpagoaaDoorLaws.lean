/- The walks of the laws TraceDiffers and TraceCalls: each returns true, and what was there stays. Conditions: lists of at most 2^47 bytes. -/
import Derived.Test.YtcalmojhdpagoaaDoorExamples
import Derived.Test.YtcalmojhdpagoaaDoorRefCalls
namespace Go.Proofs.YtcalmojhdpagoaaDoor
set_option linter.unusedVariables false
open Go.RowKit

theorem row_front {w : World} {g : Nat} {l : List Ev} (h : Row w g 33 (flat (l ++ tail))) : Evs w (some ⟨g, 0, none⟩) l :=
  Lies.row h (fun j u hu => by
    rw [flat_append, List.getElem?_append_left (List.getElem?_eq_some_iff.1 hu).1]; exact hu)
theorem below_more {B : Nat} {w a b : World} (h : Below B w a) (h2 : Below a.heap.size a b) (hB : B ≤ a.heap.size) : Below B w b :=
  h.trans (KeptX.low (KeptX.ofBelow [] h2 (Nat.le_refl _)) hB).below
theorem below_drawn {B : Nat} {w a b : World} (h : Below B w a) (h2 : ∃ n, a.drewN n = b) : Below B w b := by
  obtain ⟨n, rfl⟩ := h2; exact below_drewN h n
theorem Lies.drawn {w a : World} {A : Option Addr} {cs : List Value} (h : Lies w A cs) (h2 : ∃ n, w.drewN n = a) : Lies a A cs := by
  obtain ⟨n, rfl⟩ := h2; exact h
theorem Row.drawn {w a : World} {g : Nat} {t : TypeId} {cs : List Value} (h : Row w g t cs) (h2 : ∃ n, w.drewN n = a) : Row a g t cs := by
  obtain ⟨n, rfl⟩ := h2; exact h
theorem same_calls (l : List Ev) : outOf ((runT l).all.map Rec.cl) = outOf (runR l).1 := by rw [(run_same l).2]

set_option maxHeartbeats 2000000 in
theorem traceCalls_any (A : Option Addr) (ca : Nat) (l : List Ev) (w : World) (ha : Evs w A l) (hl : l.length * 32 ≤ 140737488355328) (hc : l.length ≤ ca) (h63 : ca ≤ 9223372036854775807)
    (htab : Lib.TabIs Tryd.prog w "internal/strconv.uint64pow10" .u64 Lib.pow10Tab) :
    Calls Tryd.prog 5 #[.slice A l.length ca] w fun e w' => e = .returned (.bool true) ∧ Below w.heap.size w w' := by
  have HTAB := Lib.hid (Lib.tabBelow_of_tabIs htab)
  have h7 := examples_any w htab
  have HA := Lib.hid ha
  clear htab ha
  go_enter Tryd.func5, Tryd.ntmps5
  go_wp2_with (first
    | (go_at_call 7; with_reducible (refine h7.mono ?_); rintro en w1 ⟨rfl, hb1⟩
       have he1 : Hid (Evs w1 A l) := HA.out.below hb1 rfl
       have h8 := lent_any A ca l w1 he1.out hl
       clear h7 HA)
    | (go_at_call 8; with_reducible (refine h8.mono ?_); rintro en w2 ⟨rfl, hr2, hb2⟩
       have he2 : Hid (Evs w2 A l) := he1.out.below hb2 rfl
       have hB2 : Hid (Below w.heap.size w w2) := below_more hb1 hb2 hb1.size
       have h14 := calls_any w2 _ (l.length + 2) l (row_front hr2) (by omega) (by omega) (HTAB.out _ hB2.out)
       rw [same_calls] at h14
       have hr2' := Lib.hid hr2
       clear h8 he1 hb1 hb2 hr2)
    | (go_at_call 14; with_reducible (refine h14.mono ?_); rintro en w3 ⟨rfl, hb3⟩
       have he3 : Hid (Evs w3 A l) := he2.out.below hb3 rfl
       have hr3 : Hid (Row w3 w1.heap.size 33 (flat (l ++ tail))) := hr2'.out.below hb3 hr2'.out.lt
       have hB3 : Hid (Below w.heap.size w w3) := below_more hB2.out hb3 hB2.out.size
       have h15 := refCalls_any w3 A ca l he3.out hc h63
       clear h14 he2 hr2' hB2 hb3)
    | (go_at_call 15; with_reducible (refine h15.mono ?_); rintro en w4 ⟨rfl, hb4⟩
       have he4 : Hid (Evs w4 A l) := he3.out.below hb4 rfl
       have hr4 : Hid (Row w4 w1.heap.size 33 (flat (l ++ tail))) := hr3.out.below hb4 hr3.out.lt
       have hB4 : Hid (Below w.heap.size w w4) := below_more hB3.out hb4 hB3.out.size
       have h11 := still_any A ca w1.heap.size l w4 he4.out hr4.out hl
       clear h15 he3 hr3 hB3 hb4)
    | (go_at_call 11; with_reducible (refine h11.mono ?_); rintro en w5 ⟨rfl, hw5⟩
       have hB5 : Hid (Below w.heap.size w w5) := below_drawn hB4.out hw5
       clear h11 hw5))
  go_ret
  exact ⟨rfl, hB5.out⟩

set_option maxHeartbeats 2000000 in
theorem traceDiffers_any (A B : Option Addr) (ca cb : Nat) (l m : List Ev) (w : World) (ha : Evs w A l) (hb : Evs w B m) (hl : l.length * 32 ≤ 140737488355328) (hm : m.length * 32 ≤ 140737488355328)
    (htab : Lib.TabIs Tryd.prog w "internal/strconv.uint64pow10" .u64 Lib.pow10Tab) :
    Calls Tryd.prog 3 #[.slice A l.length ca, .slice B m.length cb] w fun e w' => e = .returned (.bool true) ∧ Below w.heap.size w w' := by
  have h7 := examples_any w htab
  have HA := Lib.hid ha
  have HB := Lib.hid hb
  clear htab ha hb
  go_enter Tryd.func3, Tryd.ntmps3
  go_wp2_with (first
    | (go_at_call 7; with_reducible (refine h7.mono ?_); rintro en w1 ⟨rfl, hb1⟩
       have he1 : Hid (Evs w1 A l) := HA.out.below hb1 rfl
       have hf1 : Hid (Evs w1 B m) := HB.out.below hb1 rfl
       have hB1 := Lib.hid hb1
       have h8 := lent_any A ca l w1 he1.out hl
       clear h7 HA HB hb1)
    | (go_at_call 8; with_reducible (refine h8.mono ?_); rintro en w2 ⟨rfl, hr2, hb2⟩
       have he2 : Hid (Evs w2 A l) := he1.out.below hb2 rfl
       have hf2 : Hid (Evs w2 B m) := hf1.out.below hb2 rfl
       have hB2 : Hid (Below w.heap.size w w2) := below_more hB1.out hb2 hB1.out.size
       have hr2' := Lib.hid hr2
       have h8b := lent_any B cb m w2 hf2.out hm
       clear h8 he1 hf1 hB1 hb2 hr2)
    | (go_at_call 8; with_reducible (refine h8b.mono ?_); rintro en w3 ⟨rfl, hs3, hb3⟩
       have he3 : Hid (Evs w3 A l) := he2.out.below hb3 rfl
       have hf3 : Hid (Evs w3 B m) := hf2.out.below hb3 rfl
       have hB3 : Hid (Below w.heap.size w w3) := below_more hB2.out hb3 hB2.out.size
       have hr3 : Hid (Row w3 w1.heap.size 33 (flat (l ++ tail))) := hr2'.out.below hb3 hr2'.out.lt
       have hs3' := Lib.hid hs3
       have h9 := refDiffer_any A B ca cb l m w3 he3.out hf3.out (by omega) (by omega)
       clear h8b he2 hf2 hB2 hb3 hr2' hs3)
    | (go_at_call 9; with_reducible (refine h9.mono ?_); rintro en w4 ⟨rfl, hw4⟩
       have he4 : Hid (Evs w4 A l) := he3.out.drawn hw4
       have hf4 : Hid (Evs w4 B m) := hf3.out.drawn hw4
       have hB4 : Hid (Below w.heap.size w w4) := below_drawn hB3.out hw4
       have hr4 : Hid (Row w4 w1.heap.size 33 (flat (l ++ tail))) := hr3.out.drawn hw4
       have hs4 : Hid (Row w4 w2.heap.size 33 (flat (m ++ tail))) := hs3'.out.drawn hw4
       have h10 := differ_any _ _ (l.length + 2) (m.length + 2) l m w4 (row_front hr4.out) (row_front hs4.out) (by omega) (by omega)
       clear h9 he3 hf3 hB3 hr3 hs3' hw4)
    | (go_at_call 10; with_reducible (refine h10.mono ?_); rintro en w5 ⟨rfl, hw5⟩
       have he5 : Hid (Evs w5 A l) := he4.out.drawn hw5
       have hf5 : Hid (Evs w5 B m) := hf4.out.drawn hw5
       have hB5 : Hid (Below w.heap.size w w5) := below_drawn hB4.out hw5
       have hr5 : Hid (Row w5 w1.heap.size 33 (flat (l ++ tail))) := hr4.out.drawn hw5
       have hs5 : Hid (Row w5 w2.heap.size 33 (flat (m ++ tail))) := hs4.out.drawn hw5
       have h10b := differ_any _ _ (m.length + 2) (l.length + 2) m l w5 (row_front hs5.out) (row_front hr5.out) (by omega) (by omega)
       rw [dif_comm] at h10b
       clear h10 he4 hf4 hB4 hr4 hs4 hw5)
    | (go_at_call 10; with_reducible (refine h10b.mono ?_); rintro en w6 ⟨rfl, hw6⟩
       have he6 : Hid (Evs w6 A l) := he5.out.drawn hw6
       have hf6 : Hid (Evs w6 B m) := hf5.out.drawn hw6
       have hB6 : Hid (Below w.heap.size w w6) := below_drawn hB5.out hw6
       have hr6 : Hid (Row w6 w1.heap.size 33 (flat (l ++ tail))) := hr5.out.drawn hw6
       have hs6 : Hid (Row w6 w2.heap.size 33 (flat (m ++ tail))) := hs5.out.drawn hw6
       have h11 := still_any A ca w1.heap.size l w6 he6.out hr6.out hl
       clear h10b he5 hf5 hB5 hr5 hs5 hw6)
    | (go_at_call 11; with_reducible (refine h11.mono ?_); rintro en w7 ⟨rfl, hw7⟩
       have hB7 : Hid (Below w.heap.size w w7) := below_drawn hB6.out hw7
       have h11b := still_any B cb w2.heap.size m w7 (hf6.out.drawn hw7) (hs6.out.drawn hw7) hm
       clear h11 he6 hf6 hB6 hr6 hs6 hw7)
    | (go_at_call 11; with_reducible (refine h11b.mono ?_); rintro en w8 ⟨rfl, hw8⟩
       have hB8 : Hid (Below w.heap.size w w8) := below_drawn hB7.out hw8
       clear h11b hw8))
  go_ret
  exact ⟨rfl, hB8.out⟩
end Go.Proofs.YtcalmojhdpagoaaDoor
