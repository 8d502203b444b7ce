/- How long a text of a datum that came in may be: what the form's reach says of it. -/
import Derived.Test.YtehakhplglhkdaaGreatDoorOpenDat
namespace Go.Proofs.YtehakhplglhkdaaGreatDoor
open Go.ChangeShapes Go.WideShapes Go.ChangeAt Go.RowKit Go.Deep
set_option linter.unusedVariables false

set_option maxRecDepth 200000 in
theorem dat_reach {H : Type} {enc : TypeId × Value → H} {w : World} {D : Dat} {d : DataW H} {ps : List MemPlace} (h : DataW.Trod enc Tryz.prog w 0 (fun _ => true) true 28 D.val d ps)
    (hR : (DataW.weights Tryz.prog 28 d).all (· ≤ reachBytes) = true) : D.t.size ≤ 140737488351232 := by
  obtain ⟨fuel, hf⟩ := h
  obtain ⟨xs, n, hcs, hx, hl, hlen, hfl⟩ := DataW.trod_struct Tryz.underlying28 hf
  have hd : d = .agg (xs.map (·.1)) := ((Prod.mk.injEq ..).mp hx).1
  subst hd
  match xs, hlen with
  | [x0, x1, x2, x3, x4, x5, x6], _ =>
    have f1 := hfl 1 _ rfl
    clear hfl
    simp [Dat.val, Value.cells, cells9] at f1
    obtain ⟨s1, h1, e1, _⟩ := DataW.trod_string Tryz.underlying9 f1
    simp only [List.map, DataW.weights, Tryz.underlying28, DataW.weightsEach, e1] at hR
    simp only [List.all_append, List.all_cons, Bool.and_eq_true] at hR
    obtain ⟨_, ⟨k, _⟩, _⟩ := hR
    have k := of_decide_eq_true k
    have e2 : D.t = s1 := by simpa using h1
    have e3 : s1.size = s1.data.size := rfl
    rw [Array.length_toList, reachBytes] at k
    rw [e2]
    omega
end Go.Proofs.YtehakhplglhkdaaGreatDoor
