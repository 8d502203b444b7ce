/- How long the path of a datum that came in may be: what the form's reach says of it. -/
import Derived.Test.YtehakhplglhkdaaGreatDoorOpenDat
namespace Go.Proofs.YtehakhplglhkdaaGreatDoor
open Go.ChangeShapes Go.WideShapes Go.ChangeAt Go.RowKit Go.Deep
set_option linter.unusedVariables false

theorem bytes3 : Tryz.prog.bytesOf 3 = 8 := by kernel_rfl
theorem path_reach {H : Type} {enc : TypeId × Value → H} {w : World} {fuel : Nat} {A : Option Addr} {len cap : Nat} {x : DataW H × List MemPlace} (h : DataW.trod enc Tryz.prog w 0 (fun _ => true) true fuel 23 [.slice A len cap] = some x)
    (hR : (DataW.weights Tryz.prog 23 x.1).all (· ≤ reachBytes) = true) : len ≤ 17592186043904 := by
  rcases open_slice Tryz.underlying23 h with ⟨h1, _⟩ | ⟨a, len', cap', m, k, D, Pl, h1, _, hl, hm, hmm, rfl, hel⟩
  · simp at h1
    omega
  · simp at h1
    obtain ⟨rfl, rfl, rfl⟩ := h1
    simp only [DataW.weights, Tryz.underlying23, List.all_cons, Bool.and_eq_true] at hR
    have k := of_decide_eq_true hR.1
    simp only [List.length_map, List.length_range, reachBytes, bytes3] at k
    omega

set_option maxRecDepth 200000 in
theorem dat_path {H : Type} {enc : TypeId × Value → H} {w : World} {D : Dat} {d : DataW H} {ps : List MemPlace} (h : DataW.Trod enc Tryz.prog w 0 (fun _ => true) true 28 D.val d ps)
    (hR : (DataW.weights Tryz.prog 28 d).all (· ≤ reachBytes) = true) : D.pn ≤ 17592186043904 := by
  obtain ⟨fuel, hf⟩ := h
  obtain ⟨xs, n, hcs, hx, hl, hlen, hfl⟩ := DataW.trod_struct Tryz.underlying28 hf
  have hd : d = .agg (xs.map (·.1)) := ((Prod.mk.injEq ..).mp hx).1
  subst hd
  match xs, hlen with
  | [x0, x1, x2, x3, x4, x5, x6], _ =>
    have f5 := hfl 5 _ rfl
    clear hfl
    simp [Dat.val, Value.cells, cells25] at f5
    simp only [List.map, DataW.weights, Tryz.underlying28, DataW.weightsEach] at hR
    simp only [List.all_append, Bool.and_eq_true] at hR
    obtain ⟨_, _, _, _, _, r5, _⟩ := hR
    obtain ⟨ys, m, _, hy, _, hylen, hyf⟩ := DataW.trod_struct Tryz.underlying25 f5
    match ys, hylen with
    | [y0, y1, y2, y3, y4], _ =>
      have g4 := hyf 4 _ rfl
      clear hyf
      simp [cells23] at g4
      have hd5 : x5.1 = .agg [y0.1, y1.1, y2.1, y3.1, y4.1] := by rw [hy]; rfl
      rw [hd5] at r5
      simp only [DataW.weights, Tryz.underlying25, List.map, DataW.weightsEach, List.all_append, Bool.and_eq_true] at r5
      obtain ⟨_, _, _, _, r4, _⟩ := r5
      exact path_reach g4 r4
end Go.Proofs.YtehakhplglhkdaaGreatDoor
