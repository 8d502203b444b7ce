/- What the rows' lists give: what the code reads of the package's variables. -/
import Derived.Test.YtmecmlpoallpcaaGreatDoorM11
import Derived.Test.YtmecmlpoallpcaaGreatDoorRows
import Derived.Deep.Slices
import Derived.ProofKit
import Derived.OpenShut
import Derived.Lib.LaidTab
import Derived.Shelf.Vars
import Derived.Stop.Joined
namespace Go.Proofs.YtmecmlpoallpcaaGreatDoor
set_option linter.unusedVariables false
open Go.ChangeShapes Go.WideShapes Go.ChangeAt Go.RowKit Go.Deep

theorem laid_tail {P : Program} {x : String × DataW Unit} {r : List (String × DataW Unit)} {w : World} (h : laidMet P (x :: r) w) : laidMet P r w := by
  obtain ⟨ps, ⟨g, t, cs, fuel, p, q, _, _, _, _, hq, rfl⟩, hn, hc⟩ := h
  exact ⟨q, hq, (List.nodup_append.1 hn).2.1, fun b off hb => hc b off (List.mem_append_right _ hb)⟩
theorem laid_head {P : Program} {n : String} {d : DataW Unit} {r : List (String × DataW Unit)} {w : World} (h : laidMet P ((n, d) :: r) w) :
    ∃ g t cs fuel p, P.globalNamed n = some g ∧ (P.globals[g]?).map (·.type) = some t ∧ w.var? P n = some cs ∧ DataW.trod (fun _ => ()) P w 0 (fun _ => true) false fuel t cs.toList = some (d, p) := by
  obtain ⟨ps, ⟨g, t, cs, fuel, p, q, h1, h2, h3, h4, _, _⟩, _, _⟩ := h
  exact ⟨g, t, cs, fuel, p, h1, h2, h3, h4⟩
theorem data_toList {s t : ByteArray} (h : s.data.toList = t.data.toList) : s = t := by
  cases s; cases t; simp at h; simp [h]
/-- An array of texts that reads as these texts holds them, cell for cell. -/
theorem cells_of_strs {H : Type} {enc : TypeId × Value → H} {P : Program} {w : World} {base : Nat} {sp : Nat → Bool} {held : Bool} {fuel : Nat} {t e : TypeId} {n : Nat} {cs : List Value} {ss : List ByteArray} {p : List MemPlace}
    (ht : P.underlying t = some (.array n e)) (he : P.underlying e = some .string) (hce : P.cellsOf e = 1) (hct : P.cellsOf t = n)
    (h : DataW.trod enc P w base sp held fuel t cs = some (.agg (ss.map fun s => .lit (.string s.data.toList)), p)) : cs = ss.map Value.string := by
  cases fuel with
  | zero => simp [DataW.trod] at h
  | succ fuel =>
    simp only [DataW.trod, ht, hce, hct, Nat.mul_one] at h
    split at h
    · rename_i hl
      obtain ⟨xs, hm, hx⟩ := Option.map_eq_some_iff.1 h
      have hxs : xs.map (·.1) = ss.map fun s => (DataW.lit (.string s.data.toList) : DataW H) := by
        have := congrArg Prod.fst hx
        simpa using this
      have hxl : xs.length = n := by simpa using Lib.mapM_length hm
      have hzl : ss.length = n := by
        have := congrArg List.length hxs
        simp at this
        omega
      apply List.ext_getElem?
      intro i
      by_cases hi : i < n
      · obtain ⟨b, hb, hf⟩ := Lib.mapM_at hm i i (by simp [hi])
        obtain ⟨z, hc, e1, _⟩ := DataW.trod_string he hf
        have h1 : cs[i]? = some (.string z) := by
          have := congrArg (·[0]?) hc
          simpa [List.getElem?_take, List.getElem?_drop] using this
        have h2 : (xs.map (·.1))[i]? = some (DataW.lit (.string z.data.toList) : DataW H) := by simp [hb, e1]
        rw [hxs] at h2
        simp only [List.getElem?_map, Option.map_eq_some_iff, DataW.lit.injEq, Lit.string.injEq] at h2
        obtain ⟨z', hz', e2⟩ := h2
        obtain rfl := data_toList e2
        simp [h1, hz']
      · rw [List.getElem?_eq_none (by omega), List.getElem?_eq_none (by simp; omega)]
    · cases h
theorem trod_faced {H : Type} {enc : TypeId × Value → H} {P : Program} {w : World} {base : Nat} {spare : Nat → Bool} {held : Bool} {fuel : Nat} {t : TypeId} {cs : List Value} {x : DataW H × List MemPlace} {ms : Array (String × TypeId)}
    (ht : P.underlying t = some (.interface ms)) (h : DataW.trod enc P w base spare held fuel t cs = some x) : ∃ v, cs = [v] ∧ Faced v := by
  cases fuel with
  | zero => simp [DataW.trod] at h
  | succ n =>
    unfold DataW.trod at h
    rw [ht] at h
    split at h <;> first | exact ⟨_, rfl, .inl rfl⟩ | exact ⟨_, rfl, .inr ⟨_, _, rfl⟩⟩ | simp_all
theorem gAscii : Tryz.prog.globalNamed "strings.asciiSpace" = some 0 := by kernel_rfl
theorem gAsciiT : (Tryz.prog.globals[0]?).map (·.type) = some 182 := by kernel_rfl
theorem gPow : Tryz.prog.globalNamed "internal/strconv.uint64pow10" = some 3 := by kernel_rfl
theorem gPowT : (Tryz.prog.globals[3]?).map (·.type) = some 262 := by kernel_rfl
theorem gSyn : Tryz.prog.globalNamed "strconv.ErrSyntax" = some 5 := by kernel_rfl
theorem gSynT : (Tryz.prog.globals[5]?).map (·.type) = some 34 := by kernel_rfl
theorem gRng : Tryz.prog.globalNamed "strconv.ErrRange" = some 6 := by kernel_rfl
theorem gRngT : (Tryz.prog.globals[6]?).map (·.type) = some 34 := by kernel_rfl
theorem gOwn : Tryz.prog.globalNamed "guise/value.own" = some 7 := by kernel_rfl
theorem gOwnT : (Tryz.prog.globals[7]?).map (·.type) = some 277 := by kernel_rfl
theorem cells182 : Tryz.prog.cellsOf 182 = 256 := by kernel_rfl
theorem cells262 : Tryz.prog.cellsOf 262 = 20 := by kernel_rfl
theorem cells277 : Tryz.prog.cellsOf 277 = 8 := by kernel_rfl
theorem cells126 : Tryz.prog.cellsOf 126 = 1 := by kernel_rfl
theorem cells5 : Tryz.prog.cellsOf 5 = 1 := by kernel_rfl
theorem cells_9 : Tryz.prog.cellsOf 9 = 1 := by kernel_rfl
theorem ascii_data : (Rows.laid_strings_asciiSpace (H := Unit)) = Lib.tabData .u8 Lib.asciiSpaceTab := by kernel_rfl
theorem pow_data : (Rows.laid_internal_strconv_uint64pow10 (H := Unit)) = Lib.tabData .u64 Lib.pow10Tab := by kernel_rfl
theorem own_data : (Rows.laid_guise_value_own (H := Unit)) = .agg (ownL.map fun s => .lit (.string s.data.toList)) := by kernel_rfl
theorem faced_of {W : World} {n : String} {d : DataW Unit} {g : Nat} {r : List (String × DataW Unit)} (hg : Tryz.prog.globalNamed n = some g) (ht : (Tryz.prog.globals[g]?).map (·.type) = some 34) (h : laidMet Tryz.prog ((n, d) :: r) W) : ∃ v, W.cell? ⟨g, 0, none⟩ = some v ∧ Faced v := by
  obtain ⟨g', t, cs, fuel, p, hg', ht', hv, hd⟩ := laid_head h
  obtain rfl := Option.some.inj (hg.symm.trans hg')
  obtain rfl := Option.some.inj (ht.symm.trans ht')
  obtain ⟨v, e1, e2⟩ := trod_faced Tryz.underlying34 hd
  refine ⟨v, ?_, e2⟩
  rw [World.var?_cell hg hv 0]
  have : cs.toList[0]? = some v := by rw [e1]; rfl
  simpa using this
theorem shaped_at {P : Program} {w : World} {g : Nat} {t : TypeId} {zero : Array Value} (h : w.ShapedOpen P) (hg : g < P.globals.size) (h0 : ((begin P (fun _ _ => 0) default).world.heap[g]?).bind Obj.row? = some (zero, t)) : g < w.heap.size := by
  obtain ⟨cs, hh, _⟩ := h.1 g zero t hg h0
  exact (Array.getElem?_eq_some_iff.1 hh).1
theorem globP_of {W : World} (hS : W.ShapedOpen Tryz.prog) (h : laidMet Tryz.prog Rows.peepOnceUptoRow.laid W) : GlobP W ∧ OwnG W := by
  have hz : 14 ≤ W.heap.size := shaped_at (g := 13) (t := 218) (zero := #[.pointer none]) hS (of_decide_eq_true (by kernel_rfl)) (by kernel_rfl)
  have e2 := laid_tail (laid_tail h)
  have e4 := laid_tail (laid_tail e2)
  have e5 := laid_tail e4
  have e7 := laid_tail (laid_tail e5)
  have e8 := laid_tail e7
  have e2' : laidMet Tryz.prog (("internal/strconv.uint64pow10", Rows.laid_internal_strconv_uint64pow10) :: _) W := e2
  have e7' : laidMet Tryz.prog (("strings.asciiSpace", Rows.laid_strings_asciiSpace) :: _) W := e7
  have e8' : laidMet Tryz.prog (("guise/value.own", Rows.laid_guise_value_own) :: _) W := e8
  rw [pow_data] at e2'
  rw [ascii_data] at e7'
  rw [own_data] at e8'
  refine ⟨⟨Lib.tabIs_of_head gAscii gAsciiT Tryz.underlying182 Tryz.underlying5 cells5 cells182 e7', ?_, faced_of gSyn gSynT e5, faced_of gRng gRngT e4, Lib.tabIs_of_head gPow gPowT Tryz.underlying262 Tryz.underlying126 cells126 cells262 e2', hz⟩, ?_, hz⟩
  · exact cell_of_shapedOpen_int (g := 4) (t := 3) (zero := #[.int .i64 0]) hS (of_decide_eq_true (by kernel_rfl)) (by kernel_rfl) rfl (by kernel_rfl) (by kernel_rfl) Tryz.underlying3
  · obtain ⟨g, t, cs, fuel, p, hg, ht, hv, hd⟩ := laid_head e8'
    obtain rfl := Option.some.inj (gOwn.symm.trans hg)
    obtain rfl := Option.some.inj (gOwnT.symm.trans ht)
    have hc := cells_of_strs Tryz.underlying277 Tryz.underlying9 cells_9 cells277 hd
    intro j s hs
    rw [World.var?_cell gOwn hv j]
    have : cs.toList[j]? = some (.string s) := by rw [hc, List.getElem?_map, hs]; rfl
    simpa using this
end Go.Proofs.YtmecmlpoallpcaaGreatDoor
