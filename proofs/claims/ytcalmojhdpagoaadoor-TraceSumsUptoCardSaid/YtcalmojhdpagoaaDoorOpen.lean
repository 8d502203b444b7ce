/- Events that came in: what the reading of an argument of type []Event gives. -/
import Derived.Test.YtcalmojhdpagoaaDoorBase
import Derived.Test.YtcalmojhdpagoaaDoorEq
import Derived.Deep.Slices
import Derived.WalkKit
import Derived.ProofKit
import Derived.OpenShut
import Derived.Carry
import Derived.Deep.DeepHandedRow
import Derived.Lib.LaidTab
namespace Go.Proofs.YtcalmojhdpagoaaDoor
open Go.ChangeShapes Go.WideShapes Go.ChangeAt Go.RowKit Go.Deep

theorem cells33 : Tryd.prog.cellsOf 33 = 3 := by kernel_rfl
theorem bytes33 : Tryd.prog.bytesOf 33 = 32 := by kernel_rfl

theorem open_ev {H : Type} {enc : TypeId × Value → H} {w : World} {base fuel : Nat} {spare : Nat → Bool} {held : Bool} {cs : List Value} {x : DataW H × List MemPlace}
    (h : DataW.trod enc Tryd.prog w base spare held fuel 33 cs = some x) : ∃ e : Ev, cs = e.cells := by
  obtain ⟨xs, n, _, _, hl, hlen, hf⟩ := DataW.trod_struct Tryd.underlying33 h
  rw [cells33] at hl
  match cs, hl, xs, hlen with
  | [a, b, c], _, [x0, x1, x2], _ =>
    have f0 := hf 0 _ rfl
    have f1 := hf 1 _ rfl
    have f2 := hf 2 _ rfl
    have c3 : Tryd.prog.cellsOf 3 = 1 := by kernel_rfl
    have c9 : Tryd.prog.cellsOf 9 = 1 := by kernel_rfl
    simp [c3, c9] at f0 f1 f2
    obtain ⟨k, h0, _⟩ := DataW.trod_int Tryd.underlying3 f0
    obtain ⟨p, h1, _⟩ := DataW.trod_int Tryd.underlying3 f1
    obtain ⟨s, h2, _⟩ := DataW.trod_string Tryd.underlying9 f2
    simp at h0 h1 h2
    subst h0 h1 h2
    exact ⟨⟨k, p, s⟩, rfl⟩

/-- The bound of one datum's weights. -/
def Reach {H : Type} (t : TypeId) (d : DataW H) : Prop := ∀ n ∈ DataW.weights Tryd.prog t d, n ≤ reachBytes
theorem reach_cons {H : Type} {t : TypeId} {ts : List TypeId} {d : DataW H} {ds : List (DataW H)} (h : (DataW.weightsEach Tryd.prog (t :: ts) (d :: ds)).all (· ≤ reachBytes) = true) :
    Reach t d ∧ (DataW.weightsEach Tryd.prog ts ds).all (· ≤ reachBytes) = true := by
  simp only [DataW.weightsEach, List.all_append, Bool.and_eq_true] at h
  exact ⟨fun n hn => by simpa using List.all_eq_true.1 h.1 n hn, h.2⟩

theorem open_evs {H : Type} {enc : TypeId × Value → H} {w : World} {v : Value} {d : DataW H} {ps : List MemPlace} (h : DataW.Trod enc Tryd.prog w 0 (fun _ => true) true 22 v d ps) {base : Nat}
    (hval : Value.okWide Tryd.prog w .any base 22 v) (hr : Reach 22 d) :
    ∃ A c l, v = .slice A l.length c ∧ l.length ≤ c ∧ c * 32 ≤ 140737488355328 ∧ Evs w A l := by
  obtain ⟨A, n, c, rfl⟩ := okWide_slice Tryd.underlying22 hval
  obtain ⟨fuel, hf⟩ := h
  have hf' : DataW.trod enc Tryd.prog w 0 (fun _ => true) true fuel 22 [.slice A n c] = some (d, ps) := hf
  rcases open_slice Tryd.underlying22 hf' with ⟨hcs, _⟩ | ⟨a, len, cap, m, k, D, Pl, hcs, _, hl, hm, hmm, hx, hel⟩
  · simp at hcs
    obtain ⟨rfl, rfl, rfl⟩ := hcs
    exact ⟨none, 0, [], rfl, Nat.le_refl _, by omega, fun h => by simp [flat] at h⟩
  · simp at hcs
    obtain ⟨rfl, rfl, rfl⟩ := hcs
    simp at hmm
    subst hmm
    simp only [Prod.mk.injEq] at hx
    obtain ⟨rfl, _⟩ := hx
    have hw := hr ((n + (m - n)) * 32) (by
      simp only [DataW.weights, Tryd.underlying22, bytes33]
      simp)
    have hcap : m * 32 ≤ 140737488355328 := by
      rw [show n + (m - n) = m by omega] at hw
      exact Nat.le_trans hw (by decide)
    have each : ∀ i, i < n → ∃ e : Ev, w.cells? 0 (a.add (i * 3)) 3 = some e.cells := by
      intro i hi
      obtain ⟨cs', h1, h2⟩ := hel i (by omega)
      rw [cells33] at h1
      obtain ⟨e, rfl⟩ := open_ev h2
      exact ⟨e, h1⟩
    haveI : Inhabited Ev := ⟨⟨0, 0, ⟨#[]⟩⟩⟩
    obtain ⟨f, hF⟩ := choose_lt each
    refine ⟨some a, m, (List.range n).map f, by simp, by simpa using hl, hcap, fun hpos => ?_⟩
    have hlen : (flat ((List.range n).map f)).length = n * 3 := by rw [flat_length]; simp
    rw [hlen] at hpos
    obtain ⟨_, _, h0⟩ := World.cells?_some (hF 0 (by omega))
    have hs0 := h0 0 (by omega)
    obtain ⟨b, off, spot⟩ := a
    have hspot : spot = none := by
      have : w.cell? (⟨b, off, spot⟩ : Addr) = some (.int .i64 (f 0).k) := by simpa [Addr.add, Ev.cells] using hs0
      exact World.cell?_spot this
    subst hspot
    have hc0 : w.cell? ⟨b, off, none⟩ = some (.int .i64 (f 0).k) := by simpa [Addr.add, Ev.cells] using hs0
    refine ⟨b, off, rfl, ?_, fun j u hu => ?_⟩
    · apply Nat.lt_of_not_le
      intro hge
      have : w.heap[b]? = none := Array.getElem?_eq_none hge
      simp [World.cell?, this] at hc0
    · have hj : j < n * 3 := by rw [← hlen]; exact (List.getElem?_eq_some_iff.1 hu).1
      obtain ⟨_, _, hi⟩ := World.cells?_some (hF (j / 3) (by omega))
      have hc := hi (j % 3) (Nat.mod_lt _ (by omega))
      rw [add_add, add_plain, show j / 3 * 3 + j % 3 = j by omega] at hc
      rw [hc]
      have hat := flat_at ((List.range n).map f) (j / 3) (by simp; omega)
      have hj3 : j % 3 = 0 ∨ j % 3 = 1 ∨ j % 3 = 2 := by omega
      rcases hj3 with h3 | h3 | h3
      · rw [← hu, h3, show j = j / 3 * 3 by omega, hat.1]; simp [Ev.cells]
      · rw [← hu, h3, show j = j / 3 * 3 + 1 by omega, hat.2.1]; simp [Ev.cells]; congr 2; omega
      · rw [← hu, h3, show j = j / 3 * 3 + 2 by omega, hat.2.2]; simp [Ev.cells]; congr 2; omega
end Go.Proofs.YtcalmojhdpagoaaDoor
