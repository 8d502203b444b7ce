/- Texts of this proof, put together: WalkC, InsOwn, Named. -/
import Derived.Test.YtmecmlpoallpcaaGreatDoorM07
import Derived.Test.YtmecmlpoallpcaaGreatDoorM05
import Derived.Laws.RangeAny
import Derived.Shelf.Unicode.PredsPay
set_option linter.unusedSimpArgs false
/- peep.threads: who names a jump names what that one names. Condition: the code is right but for the stack, and a row of the call's own. -/
namespace Go.Proofs.YtmecmlpoallpcaaGreatDoor
set_option linter.unusedVariables false
open Go.RowKit Go.Proofs.PeepPlain

/-- Where instruction k of the row g goes. -/
def goesTo (w : World) (g k : Nat) : Nat := match w.cell? ⟨g, k * 5 + 1, none⟩ with
  | some (.int .i64 a) => a.toNat
  | _ => 0
theorem goesTo_at {w : World} {g k : Nat} {a : Int} (h : w.cell? ⟨g, k * 5 + 1, none⟩ = some (.int .i64 a)) : goesTo w g k = a.toNat := by
  unfold goesTo
  rw [h]
theorem goes_turning {w : World} {g c k t : Nat} {l : List Ins} (hk : k < l.length) (h : InsRow w g c (turning l k t)) : goesTo w g k = t := by
  have hlk : k < (turning l k t).length := by rw [turning_length]; exact hk
  have c1 := (h.at_ hlk).2.1
  rw [← ins_get hlk, turning_me hk] at c1
  have := goesTo_at c1
  rw [this]
  simp
set_option maxRecDepth 200000 in
set_option maxHeartbeats 8000000 in
theorem threads_walk (l : List Ins) (g c B : Nat) (w : World) (W : WF l) (hr : InsRow w g c l) (hl : l.length ≤ 100000) (hB : B ≤ g) :
    Calls Tryz.prog 53 #[.slice (some ⟨g, 0, none⟩) l.length c] w fun e w' => e = .returned (.tuple #[]) ∧ InsRow w' g c (PeepPlain.threads l) ∧ Below B w w' := by
  have HR := Lib.hid hr
  have HW := Lib.hid W
  have HG := Lib.hid hB
  have HL := Lib.hid hr.lt
  clear hr W hB
  go_enter Tryz.func53, Tryz.ntmps53
  go_wp2_with fail
  go_loopw [2, 3, 6] (fun z1 z2 v wr => ∃ k : Nat, v = .int .i64 k ∧ k ≤ l.length ∧ Hid (InsRow wr g c (partly l k)) ∧ Hid (Below B w wr)) (fun _ _ v _ => l.length - (intOf v).toNat)
  case atStart => exact ⟨0, rfl, Nat.zero_le _, by rw [partly_zero]; exact HR, Below.refl _ _⟩
  case round =>
    clear HR
    rename World => w2
    obtain ⟨k, rfl, hk, HR, HB⟩ := hrel
    by_cases hlt : k < l.length
    · have hi : (0 : Int) ≤ (k : Int) ∧ (k : Int) < (l.length : Int) := by omega
      by_cases hj : jumps (opAt l k)
      · have HJ := Lib.hid hj
        go_wp2_with fail
        go_loopw [3] (fun z1 wr => ∃ t : Nat, Hid (InsRow wr g c (turning l k t)) ∧ Hid (OnWay l k t) ∧ Hid (Below B w wr)) (fun _ wr => way l (goesTo wr g k))
        case atStart => exact ⟨aAt l k, by rw [turning_start HW.out hlt hj]; exact HR, onWay_start HW.out hlt hj, HB⟩
        case round =>
          clear HR HB
          rename World => w3
          obtain ⟨t, HR, HO, HB⟩ := hrel
          have hlk : k < (turning l k t).length := by rw [turning_length]; exact hlt
          have htl := HO.out.lt
          have hlt2 : t < (turning l k t).length := by rw [turning_length]; exact htl
          obtain ⟨c0, c1, _, _, _⟩ := HR.out.at_ hlk
          obtain ⟨d0, d1, d2, d3, d4⟩ := HR.out.at_ hlt2
          rw [← op_get, turning_op hlt hlt] at c0
          rw [← ins_get hlk, turning_me hlt] at c1
          rw [← op_get, turning_op hlt htl] at d0
          simp only at c1
          have hd : decide (jumps (opAt l k)) = true := decide_eq_true hj
          have hti : (0 : Int) ≤ (t : Int) ∧ (t : Int) < (l.length : Int) := by omega
          have HM := Lib.hid (goes_turning hlt HR.out)
          have hgl := HR.out.lt
          have hgn : g ≠ w3.heap.size := by omega
          by_cases h34 : opAt l t = 34
          · obtain ⟨hkt, hon, _⟩ := onWay_step HW.out HO.out h34
            have HN := Lib.hid hon
            have HWL := Lib.hid (way_less HW.out HO.out h34)
            have hul := hon.lt
            have hui : (0 : Int) ≤ (aAt l t : Int) ∧ (aAt l t : Int) < (l.length : Int) := by omega
            have ha : (turning l k t)[t].a = (aAt l t : Int) := by
              rw [← ins_get hlt2, turning_behind hlt htl hkt]
              exact (ins_get htl) ▸ a_get htl (HW.out.low t htl (.inl h34))
            rw [ha] at d1
            rw [h34] at d0
            have hu2 : aAt l t < (turning l k t).length := by rw [turning_length]; exact hul
            obtain ⟨e0, _, _, _, _⟩ := HR.out.at_ hu2
            rw [← op_get, turning_op hlt hul] at e0
            have hfz := HR.out.frozen (k * 5 + 1)
            have HT : Hid (InsRow (w3.setCell ⟨g, k * 5 + 1, none⟩ (.int .i64 (aAt l t : Int))) g c (turning l k (aAt l t))) := Lib.hid (by
              have := HR.out.putA hlk (aAt l t : Int)
              rwa [← ins_get hlk, turning_set hlt rfl] at this)
            have HB2 : Hid (Below B w (w3.setCell ⟨g, k * 5 + 1, none⟩ (.int .i64 (aAt l t : Int)))) := Lib.hid (Below.setCell (p := ⟨g, k * 5 + 1, none⟩) HB.out HG.out _)
            have HS := Lib.hid HB.out.size
            have hkt2 : ¬ opAt l t = 34 → False := fun h => h h34
            have hbk := hon.back
            clear h34 hon ha hkt hkt2 hj
            by_cases hle : aAt l t ≤ k
            · have hlei : (aAt l t : Int) ≤ (k : Int) := by omega
              rcases hbk hle with h1 | h1
              · rw [h1] at e0
                clear h1
                go_wp2_with (first
                  | (go_at_call 88; refine (jumps_walk _ _).mono ?_; rintro en w4 ⟨rfl, rfl⟩))
                go_roundw
                case rel => exact ⟨aAt l t, HT.out.alloc _, HN, HB2.out.alloc (by have := HS.out; have := HG.out; have := HL.out; simp; omega) _⟩
                case measure => rw [HM.out, goes_turning hlt (HT.out.alloc _)]; exact HWL.out
              · rw [h1] at e0
                clear h1
                go_wp2_with (first
                  | (go_at_call 88; refine (jumps_walk _ _).mono ?_; rintro en w4 ⟨rfl, rfl⟩))
                go_roundw
                case rel => exact ⟨aAt l t, HT.out.alloc _, HN, HB2.out.alloc (by have := HS.out; have := HG.out; have := HL.out; simp; omega) _⟩
                case measure => rw [HM.out, goes_turning hlt (HT.out.alloc _)]; exact HWL.out
            · have hlei : ¬ (aAt l t : Int) ≤ (k : Int) := by omega
              clear hbk e0
              go_wp2_with (first
                | (go_at_call 88; refine (jumps_walk _ _).mono ?_; rintro en w4 ⟨rfl, rfl⟩))
              go_roundw
              case rel => exact ⟨aAt l t, HT.out.alloc _, HN, HB2.out.alloc (by have := HS.out; have := HG.out; have := HL.out; simp; omega) _⟩
              case measure => rw [HM.out, goes_turning hlt (HT.out.alloc _)]; exact HWL.out
          · have b34 : (opAt l t == 34) = false := beq_eq_false_iff_ne.2 h34
            have n34 : (opAt l t != 34) = true := bne_iff_ne.2 h34
            have HE := Lib.hid (turning_end HW.out hlt hj h34 HO.out.same)
            have HS := Lib.hid HB.out.size
            clear hj
            go_wp2_with (first
              | (go_at_call 88; refine (jumps_walk _ _).mono ?_; rintro en w4 ⟨rfl, rfl⟩))
            go_roundw
            case rel => exact ⟨k + 1, by go_num, by omega, by rw [← HE.out]; exact HR.out.alloc _, HB.out.alloc (by have := HS.out; have := HG.out; have := HL.out; omega) _⟩
            case measure => simp [intOf]; omega
      · go_wp2_with fail
        go_loopw [3] (fun z1 wr => Hid (InsRow wr g c (partly l k)) ∧ Hid (Below B w wr)) (fun _ _ => 0)
        case atStart => exact ⟨HR, HB⟩
        case round =>
          clear HR HB
          rename World => w3
          obtain ⟨HR, HB⟩ := hrel
          obtain ⟨c0, _, _, _, _⟩ := HR.out.at_ (show k < (partly l k).length by rw [partly_length]; exact hlt)
          rw [← op_get, partly_op] at c0
          have hd : decide (jumps (opAt l k)) = false := decide_eq_false hj
          have HS := Lib.hid (turning_no hlt hj)
          clear hj
          go_wp2_with (first
            | (go_at_call 88; refine (jumps_walk _ _).mono ?_; rintro en w4 ⟨rfl, rfl⟩))
          go_roundw
          case rel => exact ⟨k + 1, by go_num, by omega, by rw [← HS.out]; exact HR, HB⟩
          case measure => simp [intOf]; omega
    · obtain rfl : k = l.length := by omega
      have hr := HR.out
      rw [partly_all] at hr
      replace hr := Lib.hid hr
      clear HR hlt hk
      go_wp2_with fail
      go_end0
      exact ⟨rfl, hr.out, HB.out⟩
end Go.Proofs.YtmecmlpoallpcaaGreatDoor

/- Lists of instructions that grow. No walk. -/
namespace Go.Proofs.YtmecmlpoallpcaaGreatDoor
set_option linter.unusedVariables false
open Go.RowKit Go.Proofs.PeepPlain

theorem info50 : (Tryz.prog.info? 50).map (fun i => (i.zero, i.size, i.bytes)) = some (some (.agg #[.int .i64 0, .int .i64 0, .int .i64 0, .string ⟨#[]⟩, .int .i64 0]), 5, 48) := by kernel_rfl
/-- v, the call's own, holds the instructions l. -/
def OwnP (Bo : Nat) (w : World) (v : Value) (l : List Ins) : Prop := w.ownsRow Bo 50 5 v l.length (flatI l)
section
variable {Bo : Nat} {w w' : World} {v u : Value} {l : List Ins}
theorem OwnP.nil (Bo : Nat) (w : World) : OwnP Bo w (.slice none 0 0) [] := World.ownsRow_nil _ _ _ _
theorem OwnP.alloc (h : OwnP Bo w v l) (o : Obj) : OwnP Bo (w.alloc o) v l := World.ownsRow.alloc h o
theorem OwnP.lt (h : OwnP Bo w v l) {g : Nat} (hg : v.ownBlock = some g) : Bo ≤ g ∧ g < w.heap.size := World.ownsRow.lt h g hg
theorem OwnP.below (h : OwnP Bo w v l) {B : Nat} (hb : Below B w w') (hB : w.heap.size ≤ B) : OwnP Bo w' v l :=
  own_same h fun g hg => hb.block g (by have := h.lt hg; omega)
theorem OwnP.shape (h : OwnP Bo w v l) : ∃ A c, v = .slice A l.length c := own_shape h
theorem OwnP.low (h : OwnP Bo w v l) {B : Nat} (hB : B ≤ Bo) : OwnP B w v l := by
  refine ⟨h.1, ?_⟩
  rcases h.2 with hn | ⟨g, cap, cur, hv, hb, r⟩
  · exact .inl hn
  · exact .inr ⟨g, cap, cur, hv, Nat.le_trans hB hb, r⟩
/-- One that holds something: a row. -/
theorem OwnP.row (h : OwnP Bo w v l) (hp : 0 < l.length) : ∃ g c, v = .slice (some ⟨g, 0, none⟩) l.length c ∧ Bo ≤ g ∧ InsRow w g c l := by
  obtain ⟨g, c, rfl, hb, _⟩ := World.ownsRow.form h hp
  obtain ⟨h1, h2, _⟩ := InsRow.ofOwns h
  exact ⟨g, c, rfl, hb, h1⟩
theorem OwnP.insAt {A : Option Addr} {n c : Nat} (h : OwnP Bo w (.slice A n c) l) : InsAt w A l := fun hpos => by
  have hp : 0 < l.length := by rw [flatI_length] at hpos; omega
  obtain ⟨g, c2, e, _, hr⟩ := h.row hp
  injection e with e1 e2 e3
  subst e1
  exact hr.insAt hpos
end
/-- append(x, i), x the call's own. -/
theorem put_p {ops : Array Oper} {rest : List Oper} {o : Oper} {a : Act} {Q : Exit → Act → World → Prop} (s x : Operand) (Bo : Nat) (v : Value) (l : List Ins) (i : Ins) (w : World) (cs : Array Value)
    (hgd : o.guard = none) (ho : o.op = .call { callee := .builtin .append, args := #[s, x], argTypes := #[45, 45] })
    (hs : a.eval s = v) (hown : OwnP Bo w v l) (hcs : cs = (cellsI i).toArray) (H : Nat) (hx : a.eval x = .slice (some ⟨H, 0, none⟩) 1 1) (hH : w.heap.size = H)
    (hlim : l.length ≤ 2000000) (hbase : Bo ≤ w.heap.size)
    (h : ∀ v' w', OwnP Bo w' v' (l ++ [i]) → Below Bo w w' → wpList Tryz.prog ops Q rest (a.put o.dst v') w') : wpList Tryz.prog ops Q (o :: rest) a (w.alloc (.cells cs 50)) := by
  subst hcs hH
  obtain ⟨i5, hi, hz, hs5, hy⟩ := info_parts info50
  refine wpList_append_lies (w.alloc (.cells (cellsI i).toArray 50)) hgd s x 45 ho Bo 50 i5 _ 5 48 Tryz.underlying45 hi hz hs5 hy rfl (by decide) v l.length (flatI l) hs (World.ownsRow.alloc hown _) ⟨w.heap.size, 0, none⟩ 1 1 (cellsI i) hx rfl ?_ (by simp [cellsI, Value.oneCell']) (by omega) (by simp only [maxLen]; omega) (by omega) (by simp; omega) _ rfl ?_
  · intro j u hu
    have := (Row.made w 50 (cellsI i)).cell j
    rw [Addr.add_lit, Nat.zero_add, this]
    exact hu
  · intro g cap w1 ho1 hg1 hat hlt
    refine h _ w1 ?_ ?_
    · show World.ownsRow _ _ _ _ _ _ _
      rw [List.length_append, flatI_append]
      have e : flatI [i] = cellsI i := by simp [flatI]
      rw [e]
      exact ho1
    · exact ((Below.refl Bo w).alloc hbase _).grown hg1 (by simp; omega) (fun k hk => (hown.lt hk).1)
theorem made_ints (n : Nat) : (madeCells (Value.int .i64 0).cells (n * 1)).toList = intC (List.replicate n 0) := by
  have := toList_madeCells_one (.int .i64 0) n
  simp only [Nat.mul_one]
  show (madeCells #[.int .i64 0] n).toList = _
  rw [this]
  simp [intC]
theorem make_ints (n : Nat) (h : n ≤ 2000000) (w : World) : (Instr.makeSlice 44 (.int .i64 (n : Int)) (.int .i64 (n : Int))).run Tryz.prog w = .ok (.slice (some ⟨w.heap.size, 0, none⟩) n n) (w.alloc (.cells (intC (List.replicate n 0)).toArray 3)) := by
  obtain ⟨i0, hi, hz0, hz1, hz2⟩ := info_parts info3
  have hb : (i0.bytes : Int) * (n : Int) ≤ 281474976710656 := by rw [hz2]; omega
  have := run_make (P := Tryz.prog) w 44 3 i0 _ Tryz.underlying44 hi hz0 .i64 .i64 n n (by omega) (by omega) hb (by omega)
  rw [← made_ints, ← hz1]
  simpa using this
theorem int_at {w : World} {g k : Nat} {is : List Int} (h : Row w g 3 (intC is)) (hk : k < is.length) : w.cell? ⟨g, k, none⟩ = some (.int .i64 is[k]) := by
  rw [h.cell]
  unfold intC
  rw [List.getElem?_map, List.getElem?_eq_getElem hk]
  rfl
/-- Where each goes, the first k of N known. -/
def toL (out : List Bool) (k N : Nat) : List Int := (List.range N).map fun j => if j < k then (toIdx out j : Int) else 0
theorem toL_length (out : List Bool) (k N : Nat) : (toL out k N).length = N := by simp [toL]
theorem toL_get (out : List Bool) (k N j : Nat) (h : j < (toL out k N).length) : (toL out k N)[j] = if j < k then (toIdx out j : Int) else 0 := by simp [toL]
theorem toL_zero (out : List Bool) (N : Nat) : toL out 0 N = List.replicate N 0 := by
  unfold toL
  apply List.ext_getElem
  · simp
  · intro i h1 h2
    simp
theorem toL_set (out : List Bool) (k N : Nat) : (toL out k N).set k (toIdx out k : Int) = toL out (k + 1) N := by
  apply List.ext_getElem
  · simp [toL_length]
  · intro i h1 h2
    rw [List.getElem_set, toL_get, toL_get]
    by_cases h : k = i
    · subst h
      rw [if_pos rfl, if_pos (by omega)]
    · rw [if_neg h]
      by_cases h3 : i < k
      · rw [if_pos h3, if_pos (by omega)]
      · rw [if_neg h3, if_neg (by omega)]
/-- What is left of the first k. -/
def leftTo (l : List Ins) (out : List Bool) (k : Nat) : List Ins := (kept out k).map fun j => moved out (l.getD j default)
theorem leftTo_zero (l : List Ins) (out : List Bool) : leftTo l out 0 = [] := rfl
theorem leftTo_all (l : List Ins) (out : List Bool) : leftTo l out l.length = without l out := rfl
theorem leftTo_out {l : List Ins} {out : List Bool} {k : Nat} (h : out.getD k true = true) : leftTo l out (k + 1) = leftTo l out k := by
  unfold leftTo
  rw [kept_succ, if_pos h, List.append_nil]
theorem leftTo_in {l : List Ins} {out : List Bool} {k : Nat} (h : out.getD k true = false) : leftTo l out (k + 1) = leftTo l out k ++ [moved out (l.getD k default)] := by
  unfold leftTo
  rw [kept_succ, if_neg (by rw [h]; decide), List.map_append]
  rfl
theorem leftTo_length (l : List Ins) (out : List Bool) (k : Nat) : (leftTo l out k).length = toIdx out k := by simp [leftTo, toIdx]
end Go.Proofs.YtmecmlpoallpcaaGreatDoor

/- code.named: is a text a name? -/
namespace Go.Proofs.YtmecmlpoallpcaaGreatDoor
set_option linter.unusedVariables false
open Go.RowKit Go.Proofs.PeepPlain

def letterB (c : UInt8) : Bool := (decide (97 ≤ c.toNat) && decide (c.toNat ≤ 122)) || (decide (65 ≤ c.toNat) && decide (c.toNat ≤ 90)) || decide (c.toNat = 95)
def digitB (c : UInt8) : Bool := decide (48 ≤ c.toNat) && decide (c.toNat ≤ 57)
/-- May a byte stand in a name at a place? -/
def inName (s : ByteArray) (k : Nat) (h : k < s.size) : Bool := letterB s[k] || (decide (k ≠ 0) && digitB s[k])
/-- Do all bytes stand well? -/
def lettersB (s : ByteArray) : Bool := decide (∀ k (h : k < s.size), inName s k h = true)
def keysText : ByteArray := ⟨#[97, 110, 121, 32, 98, 114, 101, 97, 107, 32, 99, 97, 115, 101, 32, 99, 111, 110, 116, 105, 110, 117, 101, 32, 100, 101, 102, 97, 117, 108, 116, 32, 100, 101, 102, 101, 114, 32, 101, 108, 115, 101, 32, 102, 97, 108, 108, 116, 104, 114, 111, 117, 103, 104, 32, 102, 97, 108, 115, 101, 32, 102, 111, 114, 32, 102, 117, 110, 99, 32, 105, 102, 32, 105, 110, 32, 109, 97, 112, 32, 110, 105, 108, 32, 112, 114, 111, 116, 111, 99, 111, 108, 32, 114, 101, 116, 117, 114, 110, 32, 115, 116, 114, 117, 99, 116, 32, 115, 119, 105, 116, 99, 104, 32, 116, 114, 117, 101, 32, 116, 121, 112, 101, 32, 118, 97, 114]⟩
def keywords : List ByteArray := (Lib.fields keysText.data.toList).map fun l => ⟨l.toArray⟩
def namedB (s : ByteArray) : Bool := lettersB s && (decide (s.size ≠ 0) && (decide (s.size ≤ 40) && !Lib.containsS keywords s))
/-- The first k bytes stand well. -/
def goodTo (s : ByteArray) (k : Nat) : Prop := ∀ j (h : j < s.size), j < k → inName s j h = true
theorem goodTo_succ {s : ByteArray} {k : Nat} (hk : k < s.size) (h : goodTo s k) (hc : inName s k hk = true) : goodTo s (k + 1) := fun j hj hlt => by
  by_cases e : j = k
  · subst e; exact hc
  · exact h j hj (by omega)
theorem letters_no {s : ByteArray} {k : Nat} (hk : k < s.size) (hc : inName s k hk = false) : lettersB s = false := by
  unfold lettersB
  rw [decide_eq_false]
  intro h
  rw [h k hk] at hc
  cases hc
theorem named_no {s : ByteArray} (h : lettersB s = false) : namedB s = false := by
  unfold namedB
  rw [h, Bool.false_and]
theorem strings_at {w : World} {g : Nat} {t : TypeId} {zs : List ByteArray} (h : Row w g t (zs.map Value.string)) : ∀ j, j < zs.length → w.cell? ⟨g, 0 + j, none⟩ = some (.string (zs.getD j ByteArray.empty)) := fun j hj => by
  rw [Nat.zero_add, h.cell, List.getElem?_map, List.getElem?_eq_getElem hj, List.getD_eq_getElem?_getD, List.getElem?_eq_getElem hj]
  rfl
theorem keywords_in (s : ByteArray) (W : World) : Calls Tryz.prog 99 #[.slice (some ⟨W.heap.size, 0, none⟩) (Lib.fields keysText.data.toList).length (Lib.fields keysText.data.toList).length, .string s] (W.alloc (.cells ((Lib.fields keysText.data.toList).map (fun l => Value.string ⟨l.toArray⟩)).toArray 9)) fun e w' => e = .returned (.bool (Lib.containsS keywords s)) ∧ w' = W.alloc (.cells ((Lib.fields keysText.data.toList).map (fun l => Value.string ⟨l.toArray⟩)).toArray 9) := by
  have e : (Lib.fields keysText.data.toList).map (fun l => Value.string ⟨l.toArray⟩) = keywords.map Value.string := by simp [keywords]
  have hl : (Lib.fields keysText.data.toList).length = keywords.length := by simp [keywords]
  rw [e, hl]
  refine (Tryz.slices_Contains_string W.heap.size 0 keywords.length keywords.length keywords s _ (Nat.le_refl _) (by rw [← hl]; decide +kernel) (strings_at (Row.made W 9 (keywords.map Value.string)))).mono ?_
  rintro en w' ⟨rfl, rfl⟩
  rw [List.take_length]
  exact ⟨rfl, rfl⟩
theorem g0a : Tryz.prog.globalNamed "strings.asciiSpace" = some 0 := by kernel_rfl
theorem keys_size : keysText.size < 4294967281 := by decide +kernel
theorem ret_bool {a b : Bool} (h : b = a) : Ending.returned (.bool a) = .returned (.bool b) := by rw [h]
theorem keys_ascii : ∀ (j : Nat) b, keysText.data.toList[j]? = some b → b.toNat < 128 := by
  intro j b h
  have := List.mem_of_getElem? h
  have hall : keysText.data.toList.all (fun b => decide (b.toNat < 128)) = true := by decide +kernel
  simpa using List.all_eq_true.1 hall b this
set_option maxRecDepth 20000 in
set_option maxHeartbeats 8000000 in
theorem named_walk (s : ByteArray) (w : World) (hs : s.size ≤ 2000000) (htab : Lib.TabIs Tryz.prog w "strings.asciiSpace" .u8 Lib.asciiSpaceTab) :
    Calls Tryz.prog 65 #[.string s] w fun e w' => e = .returned (.bool (namedB s)) ∧ Below w.heap.size w w' := by
  have HTAB := Lib.hid htab
  have HSZ := Lib.hid hs
  clear htab hs
  go_enter Tryz.func65, Tryz.ntmps65
  go_wp2_with fail
  go_loopw [2, 3, 4, 5] (fun z0 z1 z2 z3 wr => ∃ k : Nat, wr = w.iter s k ∧ Hid (k ≤ s.size) ∧ Hid (goodTo s k) ∧ z0 = .bool false) (fun _ _ _ _ wr => s.size - wr.iterPos w.heap.size)
  case atStart => exact ⟨0, rfl, Lib.hid (Nat.zero_le _), Lib.hid (fun j _ h => by omega), rfl⟩
  case round =>
    obtain ⟨k, rfl, HK, HG, rfl⟩ := hrel
    have hbw : Hid (Below w.heap.size w (w.iter s k)) := Lib.hid (below1 w _)
    by_cases hk : k < s.size
    · by_cases ha : (s[k]'hk).toNat < 128
      · obtain ⟨c, hc⟩ : ∃ c, c = (s[k]'hk).toNat := ⟨_, rfl⟩
        have hnx := run_next_ascii (P := Tryz.prog) w s k 0 hk ha
        rw [← hc] at hnx ha
        have HC := Lib.hid hc
        clear hc
        have hcls : (97 ≤ c ∧ c ≤ 122) ∨ (65 ≤ c ∧ c ≤ 90) ∨ (c = 95) ∨ (48 ≤ c ∧ c ≤ 57) ∨ (c < 48) ∨ (57 < c ∧ c < 65) ∨ (90 < c ∧ c < 95) ∨ (c = 96) ∨ (122 < c) := by omega
        rcases hcls with h | h | h | h | h | h | h | h | h
        · have i0 : (97 : Int) ≤ (c : Int) := by omega
          have i1 : (c : Int) ≤ 122 := by omega
          have i2 : (65 : Int) ≤ (c : Int) := by omega
          have i3 : ¬ (c : Int) ≤ 90 := by omega
          have i4 : ¬ (c : Int) < 48 := by omega
          have i5 : (57 : Int) < (c : Int) := by omega
          have j5 : ((c : Int) == 95) = false := by exact beq_eq_false_iff_ne.2 (by omega)
          have hin : inName s k hk = true := by
            unfold inName letterB digitB
            rw [← HC.out]
            simp only [Bool.or_eq_true, Bool.and_eq_true, decide_eq_true_eq]; omega
          have HG2 := Lib.hid (goodTo_succ hk HG.out hin)
          clear hin h ha
          go_wp2_with fail
          go_roundw
          case rel => exact ⟨k + 1, rfl, Lib.hid (by omega), HG2, rfl⟩
          case measure => simp; omega
        · have i0 : ¬ (97 : Int) ≤ (c : Int) := by omega
          have i1 : (c : Int) ≤ 122 := by omega
          have i2 : (65 : Int) ≤ (c : Int) := by omega
          have i3 : (c : Int) ≤ 90 := by omega
          have i4 : ¬ (c : Int) < 48 := by omega
          have i5 : (57 : Int) < (c : Int) := by omega
          have j5 : ((c : Int) == 95) = false := by exact beq_eq_false_iff_ne.2 (by omega)
          have hin : inName s k hk = true := by
            unfold inName letterB digitB
            rw [← HC.out]
            simp only [Bool.or_eq_true, Bool.and_eq_true, decide_eq_true_eq]; omega
          have HG2 := Lib.hid (goodTo_succ hk HG.out hin)
          clear hin h ha
          go_wp2_with fail
          go_roundw
          case rel => exact ⟨k + 1, rfl, Lib.hid (by omega), HG2, rfl⟩
          case measure => simp; omega
        · have i0 : ¬ (97 : Int) ≤ (c : Int) := by omega
          have i1 : (c : Int) ≤ 122 := by omega
          have i2 : (65 : Int) ≤ (c : Int) := by omega
          have i3 : ¬ (c : Int) ≤ 90 := by omega
          have i4 : ¬ (c : Int) < 48 := by omega
          have i5 : (57 : Int) < (c : Int) := by omega
          have j5 : ((c : Int) == 95) = true := by rw [beq_iff_eq]; omega
          have hin : inName s k hk = true := by
            unfold inName letterB digitB
            rw [← HC.out]
            simp only [Bool.or_eq_true, Bool.and_eq_true, decide_eq_true_eq]; omega
          have HG2 := Lib.hid (goodTo_succ hk HG.out hin)
          clear hin h ha
          go_wp2_with fail
          go_roundw
          case rel => exact ⟨k + 1, rfl, Lib.hid (by omega), HG2, rfl⟩
          case measure => simp; omega
        · have i0 : ¬ (97 : Int) ≤ (c : Int) := by omega
          have i1 : (c : Int) ≤ 122 := by omega
          have i2 : ¬ (65 : Int) ≤ (c : Int) := by omega
          have i3 : (c : Int) ≤ 90 := by omega
          have i4 : ¬ (c : Int) < 48 := by omega
          have i5 : ¬ (57 : Int) < (c : Int) := by omega
          have j5 : ((c : Int) == 95) = false := by exact beq_eq_false_iff_ne.2 (by omega)
          by_cases hk0 : k = 0
          · subst hk0
            have hin : inName s 0 hk = false := by
              unfold inName letterB digitB
              rw [← HC.out]
              simp only [Bool.or_eq_false_iff, Bool.and_eq_false_iff, decide_eq_false_iff_not]
              omega
            have HNO := Lib.hid (named_no (letters_no hk hin))
            clear hin h ha
            go_wp2_with fail
            go_ret
            exact ⟨ret_bool HNO.out, below1 w _⟩
          · have hin : inName s k hk = true := by
              unfold inName letterB digitB
              rw [← HC.out]
              simp only [Bool.or_eq_true, Bool.and_eq_true, decide_eq_true_eq]
              omega
            have i8 : ((k : Int) == 0) = false := beq_eq_false_iff_ne.2 (by omega)
            have HG2 := Lib.hid (goodTo_succ hk HG.out hin)
            clear hin h ha hk0
            go_wp2_with fail
            go_roundw
            case rel => exact ⟨k + 1, rfl, Lib.hid (by omega), HG2, rfl⟩
            case measure => simp; omega
        · have i0 : ¬ (97 : Int) ≤ (c : Int) := by omega
          have i1 : (c : Int) ≤ 122 := by omega
          have i2 : ¬ (65 : Int) ≤ (c : Int) := by omega
          have i3 : (c : Int) ≤ 90 := by omega
          have i4 : (c : Int) < 48 := by omega
          have i5 : ¬ (57 : Int) < (c : Int) := by omega
          have j5 : ((c : Int) == 95) = false := by exact beq_eq_false_iff_ne.2 (by omega)
          have hin : inName s k hk = false := by
            unfold inName letterB digitB
            rw [← HC.out]
            simp only [Bool.or_eq_false_iff, Bool.and_eq_false_iff, decide_eq_false_iff_not]; omega
          have HNO := Lib.hid (named_no (letters_no hk hin))
          clear hin h ha
          by_cases hk0 : k = 0
          · subst hk0
            go_wp2_with fail
            go_ret
            exact ⟨ret_bool HNO.out, below1 w _⟩
          · have i8 : ((k : Int) == 0) = false := beq_eq_false_iff_ne.2 (by omega)
            clear hk0
            go_wp2_with fail
            go_ret
            exact ⟨ret_bool HNO.out, below1 w _⟩
        · have i0 : ¬ (97 : Int) ≤ (c : Int) := by omega
          have i1 : (c : Int) ≤ 122 := by omega
          have i2 : ¬ (65 : Int) ≤ (c : Int) := by omega
          have i3 : (c : Int) ≤ 90 := by omega
          have i4 : ¬ (c : Int) < 48 := by omega
          have i5 : (57 : Int) < (c : Int) := by omega
          have j5 : ((c : Int) == 95) = false := by exact beq_eq_false_iff_ne.2 (by omega)
          have hin : inName s k hk = false := by
            unfold inName letterB digitB
            rw [← HC.out]
            simp only [Bool.or_eq_false_iff, Bool.and_eq_false_iff, decide_eq_false_iff_not]; omega
          have HNO := Lib.hid (named_no (letters_no hk hin))
          clear hin h ha
          by_cases hk0 : k = 0
          · subst hk0
            go_wp2_with fail
            go_ret
            exact ⟨ret_bool HNO.out, below1 w _⟩
          · have i8 : ((k : Int) == 0) = false := beq_eq_false_iff_ne.2 (by omega)
            clear hk0
            go_wp2_with fail
            go_ret
            exact ⟨ret_bool HNO.out, below1 w _⟩
        · have i0 : ¬ (97 : Int) ≤ (c : Int) := by omega
          have i1 : (c : Int) ≤ 122 := by omega
          have i2 : (65 : Int) ≤ (c : Int) := by omega
          have i3 : ¬ (c : Int) ≤ 90 := by omega
          have i4 : ¬ (c : Int) < 48 := by omega
          have i5 : (57 : Int) < (c : Int) := by omega
          have j5 : ((c : Int) == 95) = false := by exact beq_eq_false_iff_ne.2 (by omega)
          have hin : inName s k hk = false := by
            unfold inName letterB digitB
            rw [← HC.out]
            simp only [Bool.or_eq_false_iff, Bool.and_eq_false_iff, decide_eq_false_iff_not]; omega
          have HNO := Lib.hid (named_no (letters_no hk hin))
          clear hin h ha
          by_cases hk0 : k = 0
          · subst hk0
            go_wp2_with fail
            go_ret
            exact ⟨ret_bool HNO.out, below1 w _⟩
          · have i8 : ((k : Int) == 0) = false := beq_eq_false_iff_ne.2 (by omega)
            clear hk0
            go_wp2_with fail
            go_ret
            exact ⟨ret_bool HNO.out, below1 w _⟩
        · have i0 : ¬ (97 : Int) ≤ (c : Int) := by omega
          have i1 : (c : Int) ≤ 122 := by omega
          have i2 : (65 : Int) ≤ (c : Int) := by omega
          have i3 : ¬ (c : Int) ≤ 90 := by omega
          have i4 : ¬ (c : Int) < 48 := by omega
          have i5 : (57 : Int) < (c : Int) := by omega
          have j5 : ((c : Int) == 95) = false := by exact beq_eq_false_iff_ne.2 (by omega)
          have hin : inName s k hk = false := by
            unfold inName letterB digitB
            rw [← HC.out]
            simp only [Bool.or_eq_false_iff, Bool.and_eq_false_iff, decide_eq_false_iff_not]; omega
          have HNO := Lib.hid (named_no (letters_no hk hin))
          clear hin h ha
          by_cases hk0 : k = 0
          · subst hk0
            go_wp2_with fail
            go_ret
            exact ⟨ret_bool HNO.out, below1 w _⟩
          · have i8 : ((k : Int) == 0) = false := beq_eq_false_iff_ne.2 (by omega)
            clear hk0
            go_wp2_with fail
            go_ret
            exact ⟨ret_bool HNO.out, below1 w _⟩
        · have i0 : (97 : Int) ≤ (c : Int) := by omega
          have i1 : ¬ (c : Int) ≤ 122 := by omega
          have i2 : (65 : Int) ≤ (c : Int) := by omega
          have i3 : ¬ (c : Int) ≤ 90 := by omega
          have i4 : ¬ (c : Int) < 48 := by omega
          have i5 : (57 : Int) < (c : Int) := by omega
          have j5 : ((c : Int) == 95) = false := by exact beq_eq_false_iff_ne.2 (by omega)
          have hin : inName s k hk = false := by
            unfold inName letterB digitB
            rw [← HC.out]
            simp only [Bool.or_eq_false_iff, Bool.and_eq_false_iff, decide_eq_false_iff_not]; omega
          have HNO := Lib.hid (named_no (letters_no hk hin))
          clear hin h ha
          by_cases hk0 : k = 0
          · subst hk0
            go_wp2_with fail
            go_ret
            exact ⟨ret_bool HNO.out, below1 w _⟩
          · have i8 : ((k : Int) == 0) = false := beq_eq_false_iff_ne.2 (by omega)
            clear hk0
            go_wp2_with fail
            go_ret
            exact ⟨ret_bool HNO.out, below1 w _⟩
      · have hnx := run_next_any (P := Tryz.prog) w s k 0 hk
        obtain ⟨hd1, hd2⟩ := decode_high s k hk (by omega)
        have hin : inName s k hk = false := by
          unfold inName letterB digitB
          simp only [Bool.or_eq_false_iff, Bool.and_eq_false_iff, decide_eq_false_iff_not]
          omega
        have HNO := Lib.hid (named_no (letters_no hk hin))
        generalize (Utf8.decode s k).1 = c at hnx hd1
        generalize k + (Utf8.decode s k).2 = k2 at hnx
        have i1 : (97 : Int) ≤ (c : Int) := by omega
        have i2 : ¬ (c : Int) ≤ 122 := by omega
        have i3 : (65 : Int) ≤ (c : Int) := by omega
        have i4 : ¬ (c : Int) ≤ 90 := by omega
        have i5 : ((c : Int) == 95) = false := beq_eq_false_iff_ne.2 (by omega)
        have i6 : ¬ (c : Int) < 48 := by omega
        have i7 : (57 : Int) < (c : Int) := by omega
        clear hd1 hd2 ha hin
        by_cases hk0 : k = 0
        · subst hk0
          go_wp2_with fail
          go_ret
          exact ⟨ret_bool HNO.out, below1 w _⟩
        · have i8 : ((k : Int) == 0) = false := beq_eq_false_iff_ne.2 (by omega)
          clear hk0
          go_wp2_with fail
          go_ret
          exact ⟨ret_bool HNO.out, below1 w _⟩
    · have hnx := run_next_end (P := Tryz.prog) w s k 0 hk
      have HLT : Hid (lettersB s = true) := Lib.hid (by
        unfold lettersB
        rw [decide_eq_true]
        exact fun j hj => HG.out j hj (by have := HK.out; omega))
      have HKK : Hid (k = s.size) := Lib.hid (by have := HK.out; omega)
      by_cases hz : s.size = 0
      · obtain rfl : s = ⟨#[]⟩ := by
          cases s with
          | mk d =>
            have : d = #[] := Array.eq_empty_of_size_eq_zero hz
            rw [this]
        clear hz
        go_wp2_with fail
        go_ret
        exact ⟨ret_bool (by unfold namedB; rw [show decide ((⟨#[]⟩ : ByteArray).size ≠ 0) = false from rfl]; simp), below1 w _⟩
      · have hne0 : ¬ s.toList = [] := fun h => hz (by
          rw [ByteArray.toList_eq] at h
          have := congrArg List.length h
          simpa using this)
        have hne : (s.toList == []) = false := beq_eq_false_iff_ne.2 hne0
        have HZ := Lib.hid hz
        clear hz
        by_cases h40 : s.size ≤ 40
        · have h40i : (s.size : Int) ≤ 40 := by omega
          have HTB := Lib.hid (Go.Proofs.TabIs_below g0a HTAB.out hbw.out)
          have H40 := Lib.hid h40
          clear h40
          go_wp2_with (first
            | (go_at_call 100; refine (Tryz.strings_Fields keysText _ keys_size keys_ascii HTB.out).mono ?_; rintro en w5 ⟨rfl, rfl⟩)
            | (go_at_call 99; refine (keywords_in s _).mono ?_; rintro en w6 ⟨rfl, rfl⟩))
          go_ret
          exact ⟨ret_bool (by unfold namedB; rw [HLT.out, decide_eq_true HZ.out, decide_eq_true H40.out]; simp), hbw.out.alloc (by show w.heap.size ≤ (w.alloc _).heap.size; simp) _⟩
        · have h40i : ¬ (s.size : Int) ≤ 40 := by omega
          have H40 := Lib.hid h40
          clear h40
          go_wp2_with fail
          go_ret
          exact ⟨ret_bool (by unfold namedB; rw [decide_eq_false H40.out]; simp), hbw.out⟩
end Go.Proofs.YtmecmlpoallpcaaGreatDoor
