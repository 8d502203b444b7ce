/- What the rows' lists give: what strconv.ParseFloat reads of the package's variables. -/
import Derived.Test.YtehakhplglhkdaaGreatDoorParse15
import Derived.Deep.Slices
import Derived.ProofKit
import Derived.OpenShut
import Derived.Lib.LaidTab
import Derived.Stop.Joined
namespace Go.Proofs.YtehakhplglhkdaaGreatDoor
set_option linter.unusedVariables false
open Go.ChangeShapes Go.WideShapes Go.ChangeAt Go.RowKit Go.Deep

theorem laid_tail {P : Program} {x : String × DataW Unit} {r : List (String × DataW Unit)} {w : World} (h : laidMet P (x :: r) w) : laidMet P r w := by
  obtain ⟨ps, ⟨g, t, cs, fuel, p, q, _, _, _, _, hq, rfl⟩, hn, hc⟩ := h
  exact ⟨q, hq, (List.nodup_append.1 hn).2.1, fun b off hb => hc b off (List.mem_append_right _ hb)⟩
theorem laid_head {P : Program} {n : String} {d : DataW Unit} {r : List (String × DataW Unit)} {w : World} (h : laidMet P ((n, d) :: r) w) :
    ∃ g t cs fuel p, P.globalNamed n = some g ∧ (P.globals[g]?).map (·.type) = some t ∧ w.var? P n = some cs ∧ DataW.trod (fun _ => ()) P w 0 (fun _ => true) false fuel t cs.toList = some (d, p) := by
  obtain ⟨ps, ⟨g, t, cs, fuel, p, q, h1, h2, h3, h4, _, _⟩, _, _⟩ := h
  exact ⟨g, t, cs, fuel, p, h1, h2, h3, h4⟩
theorem trod_float {H : Type} {enc : TypeId × Value → H} {P : Program} {w : World} {base : Nat} {spare : Nat → Bool} {held : Bool} {fuel : Nat} {t : TypeId} {cs : List Value} {x : DataW H × List MemPlace} {k : FloatKind}
    (ht : P.underlying t = some (.float k)) (h : DataW.trod enc P w base spare held fuel t cs = some x) : ∃ b, cs = [.float k b] ∧ x = (.lit (.float k b), []) := by
  cases fuel with
  | zero => simp [DataW.trod] at h
  | succ n =>
    unfold DataW.trod at h
    rw [ht] at h
    split at h <;> simp_all

theorem g7 : Tryz.prog.globalNamed "internal/strconv.float64info" = some 7 := by kernel_rfl
theorem g7t : (Tryz.prog.globals[7]?).map (·.type) = some 168 := by kernel_rfl
theorem g6 : Tryz.prog.globalNamed "internal/strconv.optimize" = some 6 := by kernel_rfl
theorem g6t : (Tryz.prog.globals[6]?).map (·.type) = some 4 := by kernel_rfl
theorem g10 : Tryz.prog.globalNamed "internal/strconv.float64pow10" = some 10 := by kernel_rfl
theorem g10t : (Tryz.prog.globals[10]?).map (·.type) = some 198 := by kernel_rfl

set_option maxRecDepth 100000 in
theorem glob_info {W : World} {r : List (String × DataW Unit)} (h : laidMet Tryz.prog (("internal/strconv.float64info", Rows.laid_internal_strconv_float64info) :: r) W) : W.cell? ⟨7, 0, none⟩ = some (.int .u64 52) := by
  obtain ⟨g, t, cs, fuel, p, hg, ht, hv, hd⟩ := laid_head h
  obtain rfl := Option.some.inj (g7.symm.trans hg)
  obtain rfl := Option.some.inj (g7t.symm.trans ht)
  obtain ⟨xs, n, _, hx, hl, hlen, hf⟩ := DataW.trod_struct Tryz.underlying168 hd
  have f0 := hf 0 _ rfl
  have c62 : Tryz.prog.cellsOf 62 = 1 := by kernel_rfl
  match xs, hlen with
  | [x0, x1, x2], _ =>
    simp [c62] at f0
    obtain ⟨z, e1, e2, _⟩ := DataW.trod_int Tryz.underlying62 f0
    simp only [Rows.laid_internal_strconv_float64info, Prod.mk.injEq, DataW.agg.injEq, List.map_cons, List.cons.injEq] at hx
    have hz : (DataW.lit (.int .u64 52) : DataW Unit) = .lit (.int .u64 z) := by rw [hx.1.1, e2]
    injection hz with hz
    injection hz with _ hz
    subst hz
    rw [World.var?_cell g7 hv 0]
    have : (cs.toList.take 1)[0]? = some (.int .u64 52) := by rw [e1]; rfl
    simpa using this
theorem glob_opt {W : World} {r : List (String × DataW Unit)} (h : laidMet Tryz.prog (("internal/strconv.optimize", Rows.laid_internal_strconv_optimize) :: r) W) : W.cell? ⟨6, 0, none⟩ = some (.bool true) := by
  obtain ⟨g, t, cs, fuel, p, hg, ht, hv, hd⟩ := laid_head h
  obtain rfl := Option.some.inj (g6.symm.trans hg)
  obtain rfl := Option.some.inj (g6t.symm.trans ht)
  obtain ⟨b, e1, e2⟩ := DataW.trod_bool Tryz.underlying4 hd
  simp only [Rows.laid_internal_strconv_optimize, Prod.mk.injEq, DataW.lit.injEq, Lit.bool.injEq] at e2
  obtain ⟨rfl, _⟩ := e2
  rw [World.var?_cell g6 hv 0]
  have : cs.toList[0]? = some (.bool true) := by rw [e1]; rfl
  simpa using this
theorem pows_laid : (Rows.laid_internal_strconv_float64pow10 (H := Unit)) = .slice (pows.map fun f => .lit (.float .f64 f)) [] := by kernel_rfl
set_option maxRecDepth 100000 in
theorem glob_pow {W : World} {r : List (String × DataW Unit)} (h : laidMet Tryz.prog (("internal/strconv.float64pow10", Rows.laid_internal_strconv_float64pow10) :: r) W) :
    (∃ b o, W.cell? ⟨10, 0, none⟩ = some (.slice (some ⟨b, o, none⟩) 23 23) ∧ b < W.heap.size ∧ ∀ (k f : Nat), pows[k]? = some f → W.cell? ⟨b, o + k, none⟩ = some (.float .f64 f)) ∧ 11 ≤ W.heap.size := by
  obtain ⟨g, t, cs, fuel, p, hg, ht, hv, hd⟩ := laid_head h
  obtain rfl := Option.some.inj (g10.symm.trans hg)
  obtain rfl := Option.some.inj (g10t.symm.trans ht)
  rw [pows_laid] at hd
  have c71 : Tryz.prog.cellsOf 71 = 1 := by kernel_rfl
  have lt_of : ∀ {b i : Nat} {v : Value}, W.cell? ⟨b, i, none⟩ = some v → b < W.heap.size := fun {b i v} hc => by
    apply Nat.lt_of_not_le
    intro hge
    have : W.heap[b]? = none := Array.getElem?_eq_none hge
    simp [World.cell?, this] at hc
  rcases open_slice1 Tryz.underlying198 c71 hd with ⟨_, hx⟩ | ⟨a, len, cap, m, n, V, D, Pl, hcs, _, hl, hm, hmm, hx, hel⟩
  · cases hx
  · simp only [Prod.mk.injEq, DataW.slice.injEq] at hx
    obtain ⟨⟨hx1, hx2⟩, _⟩ := hx
    have hlen : len = 23 := by
      have := congrArg List.length hx1
      simpa [pows] using this.symm
    have hsp : m - len = 0 := by
      have := congrArg List.length hx2
      simpa using this.symm
    simp only [if_true] at hmm
    have hcap : cap = 23 := by omega
    subst hcap hlen
    have hV : ∀ (k f : Nat), pows[k]? = some f → W.cell? (a.add k) = some (.float .f64 f) := by
      intro k f hk
      have hk23 : k < 23 := (List.getElem?_eq_some_iff.1 hk).1
      obtain ⟨h1, h2⟩ := hel k (by omega)
      obtain ⟨b, e1, e2⟩ := trod_float Tryz.underlying71 h2
      have hD : (List.range 23).map D = pows.map fun f => (DataW.lit (.float .f64 f) : DataW Unit) := hx1.symm
      have hDk := congrArg (·[k]?) hD
      simp only [List.getElem?_map, hk, Option.map_some, List.getElem?_range hk23, Option.some.injEq] at hDk
      have e3 : D k = .lit (.float .f64 b) := by have := congrArg Prod.fst e2; simpa using this
      rw [e3] at hDk
      injection hDk with hDk
      injection hDk with _ hDk
      subst hDk
      simp at e1
      rw [h1, e1]
    have h0 := hV 0 _ rfl
    obtain ⟨b, o, spot⟩ := a
    have hspot : spot = none := by
      have : W.cell? (⟨b, o, spot⟩ : Addr) = some (.float .f64 4607182418800017408) := by simpa [Addr.add] using h0
      exact World.cell?_spot this
    subst hspot
    have hc10 : W.cell? ⟨10, 0, none⟩ = some (.slice (some ⟨b, o, none⟩) 23 23) := by
      rw [World.var?_cell g10 hv 0]
      have : cs.toList[0]? = some (.slice (some ⟨b, o, none⟩) 23 23) := by rw [hcs]; rfl
      simpa using this
    refine ⟨⟨b, o, hc10, lt_of (b := b) (i := o + 0) (by have := h0; rwa [add_plain] at this), fun k f hk => by have := hV k f hk; rwa [add_plain] at this⟩, ?_⟩
    have := lt_of hc10
    omega
theorem glob_of {W : World} {a b c p : String × DataW Unit} {r : List (String × DataW Unit)} (h : laidMet Tryz.prog (a :: b :: c :: ("internal/strconv.float64info", Rows.laid_internal_strconv_float64info) :: ("internal/strconv.optimize", Rows.laid_internal_strconv_optimize) :: p :: ("internal/strconv.float64pow10", Rows.laid_internal_strconv_float64pow10) :: r) W) : Glob W := by
  have h3 := laid_tail (laid_tail (laid_tail h))
  have h4 := laid_tail h3
  have h6 := laid_tail (laid_tail h4)
  obtain ⟨h7, h8⟩ := glob_pow h6
  exact ⟨glob_opt h4, glob_info h3, h7, h8⟩
end Go.Proofs.YtehakhplglhkdaaGreatDoor
