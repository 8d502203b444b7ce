/- Texts of this proof, put together: WordsA, WordsB, WordsC, Counts, Names. -/
import Derived.Test.YtmecmlpoallpcaaGreatDoorM08
import Derived.Lib.AppendIntMem
import Derived.Deep.RegionHeld3
import Derived.Deep.QuietTactic
import Derived.BigQuiet
import Derived.Maps.OwnOps
import Derived.Maps.OwnSet
import Derived.Maps.Views
set_option linter.unusedSimpArgs false
/- code.typed, code.declared; what is known of the package's variables. -/
namespace Go.Proofs.YtmecmlpoallpcaaGreatDoor
set_option linter.unusedVariables false
open Go.RowKit Go.Proofs.PeepPlain

/-- An interface value. -/
def Faced (v : Value) : Prop := v = .nilIface ∨ ∃ t p, v = .iface t p
/-- What is read of the package's variables. -/
structure GlobP (w : World) : Prop where
  ascii : Lib.TabIs Tryz.prog w "strings.asciiSpace" .u8 Lib.asciiSpaceTab
  mlen : ∃ m, w.cell? ⟨4, 0, none⟩ = some (.int .i64 m)
  syn : ∃ v, w.cell? ⟨5, 0, none⟩ = some v ∧ Faced v
  rng : ∃ v, w.cell? ⟨6, 0, none⟩ = some v ∧ Faced v
  pow : Lib.TabIs Tryz.prog w "internal/strconv.uint64pow10" .u64 Lib.pow10Tab
  size : 14 ≤ w.heap.size
theorem g3p : Tryz.prog.globalNamed "internal/strconv.uint64pow10" = some 3 := by kernel_rfl
theorem GlobP.below {w w' : World} (h : GlobP w) (hb : Below w.heap.size w w') : GlobP w' := by
  have hs := h.size
  obtain ⟨m, hm⟩ := h.mlen
  obtain ⟨v, h1, h2⟩ := h.syn
  obtain ⟨u, h3, h4⟩ := h.rng
  exact ⟨Go.Proofs.TabIs_below g0a h.ascii hb, ⟨m, (hb.cell (p := ⟨4, 0, none⟩) (show 4 < _ by omega)).trans hm⟩, ⟨v, (hb.cell (p := ⟨5, 0, none⟩) (show 5 < _ by omega)).trans h1, h2⟩, ⟨u, (hb.cell (p := ⟨6, 0, none⟩) (show 6 < _ by omega)).trans h3, h4⟩, Go.Proofs.TabIs_below g3p h.pow hb, Nat.le_trans hs hb.size⟩
theorem GlobP.drewN {w : World} (h : GlobP w) (n : Nat) : GlobP (w.drewN n) := h.below (below_drewN (Below.refl _ _) n)
theorem named_any (s : ByteArray) (w : World) (hs : s.size ≤ 2000000) (G : GlobP w) : Calls Tryz.prog 65 #[.string s] w fun e w' => e = .returned (.bool (namedB s)) ∧ Below w.heap.size w w' := named_walk s w hs G.ascii

/-- Is a text just these bytes? -/
def isT (s : ByteArray) (l : List UInt8) : Bool := decide (s.toList = l)
def typedB (s : ByteArray) (pointer any : Bool) : Bool := namedB s || (!pointer && ((isT s [109, 97, 112] || isT s [102, 117, 110, 99]) || (any && isT s [97, 110, 121])))
set_option maxHeartbeats 4000000 in
theorem typed_walk (s : ByteArray) (p a : Bool) (w : World) (hs : s.size ≤ 2000000) (G : GlobP w) :
    Calls Tryz.prog 108 #[.string s, .bool p, .bool a] w fun e w' => e = .returned (.bool (typedB s p a)) ∧ Below w.heap.size w w' := by
  have HN := Lib.hid fun w => named_any s w hs
  have HG := Lib.hid G
  clear hs G
  unfold typedB isT
  cases hn : namedB s with
  | true =>
    have HNB := Lib.hid hn
    clear hn
    go_enter Tryz.func108, Tryz.ntmps108
    go_wp2_with (first
      | (go_at_call 65; refine (HN.out _ HG.out).mono ?_; rw [HNB.out]; rintro en w2 ⟨rfl, hb2⟩))
    go_ret
    exact ⟨ret_bool (by first | (simp; done) | (simp [h1, h2, h3]; done) | (simp [h1, h2]; done)), hb2⟩
  | false =>
    have HNB := Lib.hid hn
    clear hn
    cases p with
    | true =>
      go_enter Tryz.func108, Tryz.ntmps108
      go_wp2_with (first
        | (go_at_call 65; refine (HN.out _ HG.out).mono ?_; rw [HNB.out]; rintro en w2 ⟨rfl, hb2⟩))
      go_ret
      exact ⟨ret_bool (by first | (simp; done) | (simp [h1, h2, h3]; done) | (simp [h1, h2]; done)), hb2⟩
    | false =>
      cases a with
      | true =>
        by_cases h1 : s.toList = [109, 97, 112]
        · rw [decide_eq_true h1]
          go_enter Tryz.func108, Tryz.ntmps108
          go_wp2_with (first
            | (go_at_call 65; refine (HN.out _ HG.out).mono ?_; rw [HNB.out]; rintro en w2 ⟨rfl, hb2⟩))
          go_ret
          exact ⟨ret_bool (by first | (simp; done) | (simp [h1, h2, h3]; done) | (simp [h1, h2]; done)), hb2⟩
        · rw [decide_eq_false h1]
          by_cases h2 : s.toList = [102, 117, 110, 99]
          · rw [decide_eq_true h2]
            go_enter Tryz.func108, Tryz.ntmps108
            go_wp2_with (first
              | (go_at_call 65; refine (HN.out _ HG.out).mono ?_; rw [HNB.out]; rintro en w2 ⟨rfl, hb2⟩))
            go_ret
            exact ⟨ret_bool (by first | (simp; done) | (simp [h1, h2, h3]; done) | (simp [h1, h2]; done)), hb2⟩
          · rw [decide_eq_false h2]
            by_cases h3 : s.toList = [97, 110, 121]
            · rw [decide_eq_true h3]
              go_enter Tryz.func108, Tryz.ntmps108
              go_wp2_with (first
                | (go_at_call 65; refine (HN.out _ HG.out).mono ?_; rw [HNB.out]; rintro en w2 ⟨rfl, hb2⟩))
              go_ret
              exact ⟨ret_bool (by first | (simp; done) | (simp [h1, h2, h3]; done) | (simp [h1, h2]; done)), hb2⟩
            · rw [decide_eq_false h3]
              go_enter Tryz.func108, Tryz.ntmps108
              go_wp2_with (first
                | (go_at_call 65; refine (HN.out _ HG.out).mono ?_; rw [HNB.out]; rintro en w2 ⟨rfl, hb2⟩))
              go_ret
              exact ⟨ret_bool (by first | (simp; done) | (simp [h1, h2, h3]; done) | (simp [h1, h2]; done)), hb2⟩
      | false =>
        by_cases h1 : s.toList = [109, 97, 112]
        · rw [decide_eq_true h1]
          go_enter Tryz.func108, Tryz.ntmps108
          go_wp2_with (first
            | (go_at_call 65; refine (HN.out _ HG.out).mono ?_; rw [HNB.out]; rintro en w2 ⟨rfl, hb2⟩))
          go_ret
          exact ⟨ret_bool (by first | (simp; done) | (simp [h1, h2, h3]; done) | (simp [h1, h2]; done)), hb2⟩
        · rw [decide_eq_false h1]
          by_cases h2 : s.toList = [102, 117, 110, 99]
          · rw [decide_eq_true h2]
            go_enter Tryz.func108, Tryz.ntmps108
            go_wp2_with (first
              | (go_at_call 65; refine (HN.out _ HG.out).mono ?_; rw [HNB.out]; rintro en w2 ⟨rfl, hb2⟩))
            go_ret
            exact ⟨ret_bool (by first | (simp; done) | (simp [h1, h2, h3]; done) | (simp [h1, h2]; done)), hb2⟩
          · rw [decide_eq_false h2]
            go_enter Tryz.func108, Tryz.ntmps108
            go_wp2_with (first
              | (go_at_call 65; refine (HN.out _ HG.out).mono ?_; rw [HNB.out]; rintro en w2 ⟨rfl, hb2⟩))
            go_ret
            exact ⟨ret_bool (by first | (simp; done) | (simp [h1, h2, h3]; done) | (simp [h1, h2]; done)), hb2⟩
def cutDot (s : ByteArray) : List UInt8 × List UInt8 × Bool := Lib.cut s.data.toList [46]
def declaredB (s : ByteArray) : Bool := namedB ⟨(cutDot s).1.toArray⟩ && (!(cutDot s).2.2 || namedB ⟨(cutDot s).2.1.toArray⟩)
theorem cut_small (s : ByteArray) : (cutDot s).1.length ≤ s.size ∧ (cutDot s).2.1.length ≤ s.size := by
  unfold cutDot Lib.cut
  have e : s.data.toList.length = s.size := by simp
  split
  · simp only [List.length_take, List.length_drop]
    omega
  · simp
set_option maxHeartbeats 4000000 in
theorem declared_walk (s : ByteArray) (w : World) (hs : s.size ≤ 2000000) (G : GlobP w) :
    Calls Tryz.prog 67 #[.string s] w fun e w' => e = .returned (.bool (declaredB s)) ∧ Below w.heap.size w w' := by
  obtain ⟨m, hm⟩ := G.mlen
  have hc := Tryz.strings_Cut s ⟨#[46]⟩ m w (by omega) hm
  have hcs := cut_small s
  have H1 := Lib.hid fun w => named_any ⟨(cutDot s).1.toArray⟩ w (by simp [ByteArray.size]; omega)
  have H2 := Lib.hid fun w => named_any ⟨(cutDot s).2.1.toArray⟩ w (by simp [ByteArray.size]; omega)
  have HG := Lib.hid G
  have hc' : Calls Tryz.prog 102 #[.string s, .string ⟨#[46]⟩] w fun e w' => e = .returned (.tuple #[.string ⟨(cutDot s).1.toArray⟩, .string ⟨(cutDot s).2.1.toArray⟩, .bool (cutDot s).2.2]) ∧ ∃ n, w' = w.drewN n := hc
  clear hc hs G hm hcs
  unfold declaredB
  obtain ⟨a, ha⟩ : ∃ a, a = (⟨(cutDot s).1.toArray⟩ : ByteArray) := ⟨_, rfl⟩
  obtain ⟨b, hb⟩ : ∃ b, b = (⟨(cutDot s).2.1.toArray⟩ : ByteArray) := ⟨_, rfl⟩
  rw [← ha] at H1 hc' ⊢
  rw [← hb] at H2 hc' ⊢
  generalize (cutDot s).2.2 = is at hc' ⊢
  clear ha hb
  cases hn : namedB a with
  | false =>
    have HNB := Lib.hid hn
    clear hn
    go_enter Tryz.func67, Tryz.ntmps67
    go_wp2_with (first
      | (go_at_call 102; refine hc'.mono ?_; rintro en w2 ⟨rfl, n, rfl⟩)
      | (go_at_call 65; refine (H1.out _ (HG.out.drewN n)).mono ?_; rw [HNB.out]; rintro en w3 ⟨rfl, hb3⟩))
    go_ret
    exact ⟨ret_bool (by simp), (below_drewN (Below.refl _ _) n).trans hb3⟩
  | true =>
    have HNB := Lib.hid hn
    clear hn
    cases is with
    | false =>
      go_enter Tryz.func67, Tryz.ntmps67
      go_wp2_with (first
        | (go_at_call 102; refine hc'.mono ?_; rintro en w2 ⟨rfl, n, rfl⟩)
        | (go_at_call 65; refine (H1.out _ (HG.out.drewN n)).mono ?_; rw [HNB.out]; rintro en w3 ⟨rfl, hb3⟩))
      go_ret
      exact ⟨ret_bool (by simp), (below_drewN (Below.refl _ _) n).trans hb3⟩
    | true =>
      go_enter Tryz.func67, Tryz.ntmps67
      go_wp2_with (first
        | (go_at_call 102; refine hc'.mono ?_; rintro en w2 ⟨rfl, n, rfl⟩)
        | (have hx := HNB.out; go_at_call 65; refine (H1.out _ (HG.out.drewN n)).mono ?_; rw [hx]; rintro en w3 ⟨rfl, hb3⟩
           have HB3 := Lib.hid ((below_drewN (Below.refl _ _) n).trans hb3)
           have G3 := Lib.hid ((HG.out.drewN n).below hb3)
           clear HNB H1 hx)
        | (go_at_call 65; refine (H2.out _ G3.out).mono ?_; rintro en w4 ⟨rfl, hb4⟩))
      go_ret
      exact ⟨ret_bool (by simp), HB3.out.trans (below_low hb4 HB3.out.size)⟩
end Go.Proofs.YtmecmlpoallpcaaGreatDoor

/- code.digits: is a text an int's digits?; code.says' own: is a text one of some?; code.names. -/
namespace Go.Proofs.YtmecmlpoallpcaaGreatDoor
set_option linter.unusedVariables false
open Go.RowKit Go.Proofs.PeepPlain

theorem parse_any (s : ByteArray) (w : World) (G : GlobP w) (hlim : s.size ≤ 281474976710656) :
    Calls Tryz.prog 138 #[.string s, .int .i64 10, .int .i64 64] w fun e w' => ∃ n v, e = .returned (.tuple #[.int .i64 n, v]) ∧ ((v = .nilIface ∧ Lib.parseIntB 64 s.data.toList = .ok n) ∨ ((∃ N, v = .iface 236 (.pointer (some ⟨N, 0, none⟩))) ∧ ∀ m, Lib.parseIntB 64 s.data.toList ≠ .ok m)) ∧ Below w.heap.size w w' := by
  obtain ⟨ev, hv, hev⟩ := G.syn
  obtain ⟨ew, hw, hew⟩ := G.rng
  cases h : Lib.parseIntB 64 s.data.toList with
  | ok v =>
    refine (Tryz.strconv_ParseInt_10_at64_ok s (by omega) v h w).mono ?_
    rintro e w' ⟨rfl, hw'⟩
    refine ⟨v, .nilIface, rfl, .inl ⟨rfl, rfl⟩, ?_⟩
    rcases hw' with rfl | ⟨t, rfl⟩
    · exact Below.refl _ _
    · exact Lib.bytesWorld_below _ _ _
  | range =>
    refine (Tryz.strconv_ParseInt_10_at64_range s hlim h ew w hw hew).mono ?_
    rintro e w' ⟨N, rfl, _, _, hb⟩
    exact ⟨_, _, rfl, .inr ⟨⟨N, rfl⟩, fun m hm => by cases hm⟩, hb⟩
  | _ =>
    refine (Any.strconv_ParseInt_10_at64_syntax Tryz.laysC174 s hlim h ev w hv hev).mono ?_
    rintro e w' ⟨N, rfl, _, _, hb⟩
    exact ⟨_, _, rfl, .inr ⟨⟨N, rfl⟩, fun m hm => by cases hm⟩, hb⟩
theorem format_any (n : Int) (h0 : -9223372036854775808 ≤ n) (h1 : n ≤ 9223372036854775807) (w : World) (G : GlobP w) :
    Calls Tryz.prog 139 #[.int .i64 n, .int .i64 10] w fun e w' => e = .returned (.string ⟨(Lib.itoa n).toArray⟩) ∧ Below w.heap.size w w' := by
  refine (Tryz.strconv_FormatInt_10 n h0 h1 w G.pow).mono ?_
  rintro e w' ⟨rfl, k, os, rfl⟩
  exact ⟨rfl, Lib.below_grow _ _ (Nat.le_refl _) k os⟩
/-- The int that a text's digits spell, if it is so spelled. -/
def digitsOf (s : ByteArray) : Option Int := match Lib.parseIntB 64 s.data.toList with
  | .ok n => if (Lib.itoa n) = s.data.toList then some n else none
  | _ => none
def digitsB (s : ByteArray) : Bool := (digitsOf s).isSome
theorem digits_ok {s : ByteArray} {n : Int} (h : Lib.parseIntB 64 s.data.toList = .ok n) : digitsB s = decide ((⟨(Lib.itoa n).toArray⟩ : ByteArray).toList = s.toList) := by
  unfold digitsB digitsOf
  rw [h, ByteArray.toList_eq, ByteArray.toList_eq]
  simp only
  by_cases e : Lib.itoa n = s.data.toList
  · rw [if_pos e]; simp [e]
  · rw [if_neg e]; simp [e]
theorem digits_bad {s : ByteArray} (h : ∀ n, Lib.parseIntB 64 s.data.toList ≠ .ok n) : digitsB s = false := by
  unfold digitsB digitsOf
  split
  · rename_i n hn; exact absurd hn (h n)
  · rfl
set_option maxHeartbeats 4000000 in
theorem digits_walk (s : ByteArray) (w : World) (hs : s.size ≤ 2000000) (G : GlobP w) :
    Calls Tryz.prog 106 #[.string s] w fun e w' => e = .returned (.bool (digitsB s)) ∧ Below w.heap.size w w' := by
  have hp := parse_any s w G (by omega)
  have HG := Lib.hid G
  clear hs G
  by_cases hok : ∃ n, Lib.parseIntB 64 s.data.toList = .ok n
  · obtain ⟨n, hn⟩ := hok
    have hp1 : Calls Tryz.prog 138 #[.string s, .int .i64 10, .int .i64 64] w fun e w' => e = .returned (.tuple #[.int .i64 n, .nilIface]) ∧ Below w.heap.size w w' := hp.mono (by
      rintro e w' ⟨m, v, rfl, h | ⟨_, h⟩, hb⟩
      · obtain ⟨rfl, h⟩ := h
        rw [hn] at h
        injection h with h
        subst h
        exact ⟨rfl, hb⟩
      · exact absurd hn (h n))
    have hbd := Lib.parseIntB_bounds hn
    have hf := fun (w : World) (G : GlobP w) => format_any n (by have := hbd.1; simp at this; omega) (by have := hbd.2; simp at this; omega) w G
    rw [digits_ok hn]
    generalize (⟨(Lib.itoa n).toArray⟩ : ByteArray) = a at hf ⊢
    clear hp hn hbd
    by_cases e : a.toList = s.toList
    · rw [decide_eq_true e]
      have e2 : (a.toList == s.toList) = true := beq_iff_eq.2 e
      clear e
      go_enter Tryz.func106, Tryz.ntmps106
      go_wp2_with (first
        | (go_at_call 138; refine hp1.mono ?_; rintro en w2 ⟨rfl, hb2⟩
           have G2 := Lib.hid (HG.out.below hb2))
        | (go_at_call 139; refine (hf _ G2.out).mono ?_; rintro en w3 ⟨rfl, hb3⟩))
      go_ret
      exact ⟨ret_bool (by simp), hb2.trans (below_low hb3 hb2.size)⟩
    · rw [decide_eq_false e]
      have e2 : (a.toList == s.toList) = false := beq_eq_false_iff_ne.2 e
      clear e
      go_enter Tryz.func106, Tryz.ntmps106
      go_wp2_with (first
        | (go_at_call 138; refine hp1.mono ?_; rintro en w2 ⟨rfl, hb2⟩
           have G2 := Lib.hid (HG.out.below hb2))
        | (go_at_call 139; refine (hf _ G2.out).mono ?_; rintro en w3 ⟨rfl, hb3⟩))
      go_ret
      exact ⟨ret_bool (by simp), hb2.trans (below_low hb3 hb2.size)⟩
  · have hno : ∀ n, Lib.parseIntB 64 s.data.toList ≠ .ok n := fun n h => hok ⟨n, h⟩
    have hp1 : Calls Tryz.prog 138 #[.string s, .int .i64 10, .int .i64 64] w fun e w' => (∃ m N, e = .returned (.tuple #[.int .i64 m, .iface 236 (.pointer (some ⟨N, 0, none⟩))])) ∧ Below w.heap.size w w' := hp.mono (by
      rintro e w' ⟨m, v, rfl, h | ⟨⟨N, rfl⟩, h⟩, hb⟩
      · exact absurd h.2 (hno m)
      · exact ⟨⟨m, N, rfl⟩, hb⟩)
    rw [digits_bad hno]
    clear hp hok hno
    go_enter Tryz.func106, Tryz.ntmps106
    go_wp2_with (first
      | (go_at_call 138; refine hp1.mono ?_; rintro en w2 ⟨⟨m, N, rfl⟩, hb2⟩))
    go_ret
    exact ⟨ret_bool (by simp), hb2⟩
end Go.Proofs.YtmecmlpoallpcaaGreatDoor

/- code.says' own function: is an instruction's text one of some?; code.names. -/
namespace Go.Proofs.YtmecmlpoallpcaaGreatDoor
set_option linter.unusedVariables false
open Go.RowKit Go.Proofs.PeepPlain

def blankS : ByteArray := ⟨#[32]⟩
/-- A text's parts between blanks. -/
def partsB (s : ByteArray) : List ByteArray := Lib.splitB blankS 0 (Lib.countB s blankS) s
theorem parts_length (s : ByteArray) : (partsB s).length = Lib.countB s blankS + 1 := Lib.splitB_all blankS (by decide) 0 _ s rfl
theorem parts_count (s : ByteArray) : Lib.countB s blankS ≤ s.size := Lib.countB_le blankS (by decide) _ s (Nat.le_refl _)
theorem split_any (s : ByteArray) (w : World) (hs : s.size ≤ 2000000) (G : GlobP w) :
    Calls Tryz.prog 105 #[.string s, .string ⟨#[32]⟩] w fun e w' => e = .returned (.slice (some ⟨w.heap.size, 0, none⟩) (partsB s).length (partsB s).length) ∧ Row w' w.heap.size 9 ((partsB s).map Value.string) ∧ Below w.heap.size w w' := by
  obtain ⟨m, hm⟩ := G.mlen
  refine (Tryz.strings_Split s blankS m w (by omega) hm (by decide)).mono ?_
  rintro e w' ⟨rfl, rfl⟩
  rw [parts_length]
  exact ⟨rfl, Row.made w 9 ((partsB s).map Value.string), below1 w _⟩
theorem contains_row (zs : List ByteArray) (x : ByteArray) (g : Nat) (w : World) (hr : Row w g 9 (zs.map Value.string)) (hl : zs.length ≤ 9223372036854775807) :
    Calls Tryz.prog 99 #[.slice (some ⟨g, 0, none⟩) zs.length zs.length, .string x] w fun e w' => e = .returned (.bool (Lib.containsS zs x)) ∧ w' = w := by
  refine (Tryz.slices_Contains_string g 0 zs.length zs.length zs x w (Nat.le_refl _) hl (strings_at hr)).mono ?_
  rintro en w' ⟨rfl, rfl⟩
  rw [List.take_length]
  exact ⟨rfl, rfl⟩
def amongB (l x : ByteArray) : Bool := decide (x.size ≠ 0) && Lib.containsS (partsB l) x
theorem empty_toList {s : ByteArray} (h : s.size ≠ 0) : ¬ s.toList = [] := fun h2 => h (by
  rw [ByteArray.toList_eq] at h2
  have := congrArg List.length h2
  simpa using this)
set_option maxHeartbeats 4000000 in
theorem among_walk (l : ByteArray) (x : Ins) (g : Nat) (w : World) (hl : l.size ≤ 2000000) (hr : Row w g 50 (cellsI x)) (G : GlobP w) :
    Calls Tryz.prog 104 #[.string l, .pointer (some ⟨g, 0, none⟩)] w fun e w' => e = .returned (.bool (amongB l x.text)) ∧ Below w.heap.size w w' := by
  have hc : w.cell? ⟨g, 3, none⟩ = some (.string x.text) := hr.cell 3
  have hgl := hr.lt
  have HR := Lib.hid hr
  have HG := Lib.hid G
  have HL := Lib.hid hl
  have hpc := parts_count l
  have HPC : Hid ((partsB l).length ≤ 9223372036854775807) := Lib.hid (by rw [parts_length]; omega)
  clear hr G hl hpc
  unfold amongB
  generalize x.text = t at hc ⊢
  by_cases hz : t.size = 0
  · obtain rfl : t = ⟨#[]⟩ := by
      cases t with
      | mk d =>
        have : d = #[] := Array.eq_empty_of_size_eq_zero hz
        rw [this]
    clear hz
    go_enter Tryz.func104, Tryz.ntmps104
    go_wp2_with fail
    go_quiet (fail)
    go_wp2_with fail
    go_ret
    exact ⟨ret_bool (by rw [show decide ((⟨#[]⟩ : ByteArray).size ≠ 0) = false from rfl]; simp), below_drewN (Below.refl _ _) nq⟩
  · have hne := empty_toList hz
    have hne2 : (t.toList == []) = false := beq_eq_false_iff_ne.2 hne
    have HZ := Lib.hid hz
    clear hz
    go_enter Tryz.func104, Tryz.ntmps104
    go_wp2_with fail
    go_region_held3 (fun w' => w'.cell? ⟨g, 3, none⟩ = some (.string t)) (first | exact hc | exact hc2 | go_keep) (first | (go_at_call 105; refine (split_any l _ HL.out (HG.out.drewN 1)).mono ?_; rintro en w2 ⟨rfl, hr2, hb2⟩; have hc2 := (hb2.cell (p := ⟨g, 3, none⟩) (show g < w.drew.heap.size from hgl)).trans hc; have HR2 := Lib.hid hr2; have HB2 := Lib.hid hb2; clear hr2 hb2) | (go_at_call 99; refine (contains_row _ t _ _ HR2.out HPC.out).mono ?_; rintro en w3 ⟨rfl, rfl⟩))
    go_wp2_with fail
    go_ret
    exact ⟨ret_bool (by rw [decide_eq_true HZ.out]; simp), (below_drewN (Below.refl _ _) 1).trans HB2.out⟩
end Go.Proofs.YtmecmlpoallpcaaGreatDoor

/- How often each text came: a map from texts to numbers, the call's own. No walk. -/
namespace Go.Proofs.YtmecmlpoallpcaaGreatDoor
set_option linter.unusedVariables false
open Go.RowKit Go.Proofs.PeepPlain

/-- How often a text stands in a list. -/
def cnt (s : ByteArray) (l : List ByteArray) : Nat := l.countP fun t => decide (t = s)
theorem cnt_le (s : ByteArray) (l : List ByteArray) : cnt s l ≤ l.length := List.countP_le_length
theorem cnt_snoc (s t : ByteArray) (l : List ByteArray) : cnt s (l ++ [t]) = cnt s l + if t = s then 1 else 0 := by
  unfold cnt
  rw [List.countP_append, List.countP_singleton]
  simp
/-- Block b holds how often each text stands in l. -/
def CountM (w : World) (b : Nat) (l : List ByteArray) : Prop :=
  ∃ n D, w.ownsMap Tryz.prog 9 (plainElem (H := Unit) Tryz.prog 3) b n D ∧ n ≤ l.length ∧ Maps.IsMap D ∧ ∀ s : ByteArray, D.atKey (.string s.data.toList) (.lit (.int .i64 0)) = .lit (.int .i64 (cnt s l : Nat))
theorem make51 (w : World) : (Instr.makeMap 51 none).run Tryz.prog w = .ok (.map (some w.heap.size)) (w.alloc (.map #[] 0)) := by kernel_rfl
theorem zero3 (w : World) : (zeroValue 3).run Tryz.prog w = .ok (.int .i64 0) w := by kernel_rfl
theorem key9 {s : ByteArray} (hs : s.size ≤ 2000000) : keyOf Tryz.prog 9 (.string s) = some (.string s.data.toList) := WideMaps.keyOf_string_mk Tryz.underlying9 (by unfold maxLen; omega)
theorem keyed9 : Maps.Keyed Tryz.prog 9 := Maps.string_keyed Tryz.underlying9
theorem count_made (w : World) : CountM (w.alloc (.map #[] 0)) w.heap.size [] :=
  ⟨0, .map [], World.ownsMap_made w _ _ _, Nat.le_refl _, ⟨[], rfl⟩, fun s => by simp [DataW.atKey, cnt]⟩
theorem CountM.lt {w : World} {b : Nat} {l : List ByteArray} (h : CountM w b l) : b < w.heap.size := by
  obtain ⟨n, D, h, _⟩ := h
  exact h.lt
theorem CountM.below {w w' : World} {B b : Nat} {l : List ByteArray} (h : CountM w b l) (hb : Below B w w') (hB : b < B) : CountM w' b l := by
  have hlt := h.lt
  obtain ⟨n, D, ⟨es, clock, h1, h2, h3, h4⟩, h5⟩ := h
  exact ⟨n, D, ⟨es, clock, (hb.block b hB).trans h1, h2, h3, h4⟩, h5⟩
theorem CountM.alloc {w : World} {b : Nat} {l : List ByteArray} (h : CountM w b l) (o : Obj) : CountM (w.alloc o) b l := h.below (below1 w o) h.lt
theorem count_look {w : World} {b : Nat} {l : List ByteArray} (h : CountM w b l) {s : ByteArray} (hs : s.size ≤ 2000000) :
    (Instr.lookup 51 (.map (some b)) (.string s) false).run Tryz.prog w = .ok (.int .i64 (cnt s l : Nat)) w := by
  obtain ⟨n, D, h, hn, hm, hc⟩ := h
  obtain ⟨c, hrun, hat, _⟩ := h.lookup_int keyed9 Tryz.underlying51 Tryz.underlying3 (zero3 w) (key9 hs)
  rw [hc s] at hat
  simp only [DataW.lit.injEq, Lit.int.injEq, true_and] at hat
  rw [hrun, ← hat]
theorem count_put {w : World} {b : Nat} {l : List ByteArray} (h : CountM w b l) (hl : l.length ≤ 2000000) {s : ByteArray} (hs : s.size ≤ 2000000) :
    ∃ w', (Instr.mapUpdate 51 (.map (some b)) (.string s) (.int .i64 ((cnt s l : Nat) + 1))).run Tryz.prog w = .ok () w' ∧ CountM w' b (l ++ [s]) ∧ w.grownBy w' (some b) := by
  obtain ⟨n, D, h, hn, hm, hc⟩ := h
  have hcl : cnt s l ≤ l.length := cnt_le s l
  have hwf : (Lit.int .i64 (((cnt s l : Nat) : Int) + 1)).wf = true := by
    simp [Lit.wf, IntKind.min, IntKind.max, IntKind.bits, IntKind.signed]
    omega
  obtain ⟨w', hrun, ho, hg⟩ := h.update keyed9 Tryz.underlying51 (show n < maxLen by unfold maxLen; omega) (key9 hs) (plainElem_int (H := Unit) Tryz.underlying3 hwf)
  refine ⟨w', hrun, ⟨n + 1, _, ho, by simp; omega, ?_, fun t => ?_⟩, hg⟩
  · exact ho.isMap
  · by_cases e : t = s
    · subst e
      rw [Maps.atKey_put_same hm (keyed9.key (key9 hs)), cnt_snoc, if_pos rfl]
      rfl
    · have hne : (Lit.string t.data.toList) ≠ .string s.data.toList := by
        intro h
        injection h with h
        apply e
        cases t; cases s
        simp at h
        rw [h]
      rw [Maps.atKey_put_other hne, hc t, cnt_snoc, if_neg (fun h => e h.symm)]
      rfl
end Go.Proofs.YtmecmlpoallpcaaGreatDoor

/- code.names: so many names, a blank between, the ones behind the first all unlike. -/
namespace Go.Proofs.YtmecmlpoallpcaaGreatDoor
set_option linter.unusedVariables false
open Go.RowKit Go.Proofs.PeepPlain

/-- The k-th is a name, and (but for the first) none of those ahead of it but the first. -/
def freshAt (l : List ByteArray) (k : Nat) : Bool := namedB (l.getD k ByteArray.empty) && decide (¬ 1 < cnt (l.getD k ByteArray.empty) ((l.take (k + 1)).drop 1))
def namesB (s : ByteArray) (n : Int) : Bool := decide (∀ k, k < (partsB s).length → freshAt (partsB s) k = true) && decide (((partsB s).length : Int) = n)
theorem names_no {s : ByteArray} {n : Int} {k : Nat} (hk : k < (partsB s).length) (h : freshAt (partsB s) k = false) : namesB s n = false := by
  unfold namesB
  rw [decide_eq_false, Bool.false_and]
  intro h2
  rw [h2 k hk] at h
  cases h
theorem drop_take_snoc {l : List ByteArray} {k : Nat} (hk : k < l.length) (h0 : 0 < k) : (l.take (k + 1)).drop 1 = (l.take k).drop 1 ++ [l.getD k ByteArray.empty] := by
  rw [List.take_add_one, List.getElem?_eq_getElem hk, List.drop_append_of_le_length (by rw [List.length_take]; omega), List.getD_eq_getElem?_getD, List.getElem?_eq_getElem hk]
  rfl
theorem split_small (sep : ByteArray) (save : Nat) : ∀ (k : Nat) (s : ByteArray), ∀ x ∈ Lib.splitB sep save k s, x.size ≤ s.size
  | 0, s, x, h => by
    rw [Lib.splitB_zero] at h
    obtain rfl := List.mem_singleton.1 h
    exact Nat.le_refl _
  | k + 1, s, x, h => by
    unfold Lib.splitB at h
    split at h
    · obtain rfl := List.mem_singleton.1 h
      exact Nat.le_refl _
    · rcases List.mem_cons.1 h with rfl | h
      · simp [ByteArray.size_extract]; omega
      · have := split_small sep save k _ x h
        simp [ByteArray.size_extract] at this
        omega
theorem parts_small {s : ByteArray} {k : Nat} : ((partsB s).getD k ByteArray.empty).size ≤ s.size := by
  rw [List.getD_eq_getElem?_getD]
  by_cases hk : k < (partsB s).length
  · rw [List.getElem?_eq_getElem hk]
    exact split_small _ _ _ _ _ (List.getElem_mem hk)
  · rw [List.getElem?_eq_none (by omega)]
    exact Nat.zero_le _
theorem glob_far {w w' : World} (G : GlobP w) (hb : Below w.heap.size w w') : GlobP w' := G.below hb
set_option maxRecDepth 20000 in
set_option maxHeartbeats 8000000 in
theorem names_walk (s : ByteArray) (n : Int) (w : World) (hs : s.size ≤ 2000000) (G : GlobP w) :
    Calls Tryz.prog 109 #[.string s, .int .i64 n] w fun e w' => e = .returned (.bool (namesB s n)) ∧ Below w.heap.size w w' := by
  have HG := Lib.hid G
  have HGW := Lib.hid G
  have HSZ := Lib.hid hs
  have hpl : (partsB s).length ≤ 2000001 := by have := parts_length s; have := parts_count s; omega
  have HPL := Lib.hid hpl
  have hsp := split_any s w (by omega) G
  obtain ⟨N, hN⟩ : ∃ N, N = (partsB s).length := ⟨_, rfl⟩
  rw [← hN] at hsp
  have HN := Lib.hid hN
  have hmk := make51
  clear hs G hpl hN
  go_enter Tryz.func109, Tryz.ntmps109
  go_wp2_with (first
    | (go_at_call 105; refine hsp.mono ?_; rintro en w2 ⟨rfl, hr2, hb2⟩
       have hgl := hr2.lt
       have HB2lt := Lib.hid hgl
       have HR2 := Lib.hid hr2
       have HB2 := Lib.hid hb2
       clear hr2 hb2))
  go_loopw [4, 7, 8, 14] (fun z0 z1 z2 kv wr => ∃ k : Nat, kv = .int .i64 k ∧ k ≤ N ∧ Hid (CountM wr w2.heap.size (((partsB s).take k).drop 1)) ∧ Hid (∀ j, j < k → freshAt (partsB s) j = true) ∧ Hid (Row wr w.heap.size 9 ((partsB s).map Value.string)) ∧ Hid (Below w.heap.size w wr) ∧ Hid (GlobP wr) ∧ z0 = .bool false) (fun _ _ _ kv _ => N - (intOf kv).toNat)
  case atStart => exact ⟨0, rfl, Nat.zero_le _, Lib.hid (by simpa using count_made w2), Lib.hid (fun j hj => by omega), Lib.hid (HR2.out.alloc _), Lib.hid (HB2.out.alloc HB2.out.size _), Lib.hid ((HG.out.below HB2.out).below (below1 w2 _)), rfl⟩
  case round =>
    clear HR2 hsp hmk HG
    rename World => w3
    obtain ⟨k, rfl, hkN, HC, HFA, HR, HB, HG, rfl⟩ := hrel
    by_cases hk : k < N
    · have hki : (0 : Int) ≤ (k : Int) ∧ (k : Int) < (N : Int) := by omega
      obtain ⟨X, hX⟩ : ∃ X, (partsB s).getD k ByteArray.empty = X := ⟨_, rfl⟩
      have hcx := strings_at HR.out k (by rw [← HN.out]; exact hk)
      rw [hX, Nat.zero_add] at hcx
      have HXE := Lib.hid hX
      have HXS : Hid (X.size ≤ 2000000) := Lib.hid (by rw [← hX]; have := @parts_small s k; have := HSZ.out; omega)
      have HXS2 := HXS
      have hgl := HR.out.lt
      have hml := HC.out.lt
      clear hX
      by_cases hk0 : k = 0
      · subst hk0
        obtain ⟨D, hD⟩ : ∃ D, cnt X [] = D := ⟨_, rfl⟩
        have HCX := Lib.hid hD
        have HLK : Hid (((partsB s).take (0 + 1)).drop 1 = []) := Lib.hid (by apply List.eq_nil_of_length_eq_zero; rw [List.length_drop, List.length_take]; omega)
        have HC0 : Hid (CountM w3 w2.heap.size []) := Lib.hid (by have := HC.out; simpa using this)
        clear hD
        cases hnb : namedB X with
        | false =>
          have HNB := Lib.hid hnb
          have HNO : Hid (namesB s n = false) := Lib.hid (names_no (k := 0) (by rw [← HN.out]; exact hk) (by unfold freshAt; rw [HXE.out, HNB.out, Bool.false_and]))
          clear hnb
          go_wp2_with (first
            | (go_at_call 65; refine (named_any X _ HXS.out HG.out).mono ?_; rw [HNB.out]; rintro en w5 ⟨rfl, hb5⟩
               have G5 := Lib.hid (HG.out.below hb5)
               have C5 := Lib.hid (HC0.out.below hb5 HC0.out.lt)
               have B5 := Lib.hid (HB.out.trans (below_low hb5 HB.out.size))
               have R5 := Lib.hid (HR.out.below hb5 HR.out.lt)
               have hl5 := count_look C5.out HXS2.out
               rw [HCX.out] at hl5
               clear hb5))
          go_ret
          exact ⟨ret_bool HNO.out, B5.out⟩
        | true =>
          have HNB := Lib.hid hnb
          clear hnb
          by_cases hc1 : 1 < D
          · have hc1i : (1 : Int) < (D : Int) := by omega
            have HNO : Hid (namesB s n = false) := Lib.hid (names_no (k := 0) (by rw [← HN.out]; exact hk) (by unfold freshAt; rw [HXE.out, HNB.out, HLK.out, HCX.out, decide_eq_false (by omega)]; rfl))
            clear hc1
            go_wp2_with (first
              | (go_at_call 65; refine (named_any X _ HXS.out HG.out).mono ?_; rw [HNB.out]; rintro en w5 ⟨rfl, hb5⟩
                 have G5 := Lib.hid (HG.out.below hb5)
                 have C5 := Lib.hid (HC0.out.below hb5 HC0.out.lt)
                 have B5 := Lib.hid (HB.out.trans (below_low hb5 HB.out.size))
                 have R5 := Lib.hid (HR.out.below hb5 HR.out.lt)
                 have hl5 := count_look C5.out HXS2.out
                 rw [HCX.out] at hl5
                 clear hb5))
            go_ret
            exact ⟨ret_bool HNO.out, B5.out⟩
          · have hc1i : ¬ (1 : Int) < (D : Int) := by omega
            have HFR : Hid (freshAt (partsB s) 0 = true) := Lib.hid (by unfold freshAt; rw [HXE.out, HNB.out, HLK.out, HCX.out, decide_eq_true hc1]; rfl)
            clear hc1
            go_wp2_with (first
              | (go_at_call 65; refine (named_any X _ HXS.out HG.out).mono ?_; rw [HNB.out]; rintro en w5 ⟨rfl, hb5⟩
                 have G5 := Lib.hid (HG.out.below hb5)
                 have C5 := Lib.hid (HC0.out.below hb5 HC0.out.lt)
                 have B5 := Lib.hid (HB.out.trans (below_low hb5 HB.out.size))
                 have R5 := Lib.hid (HR.out.below hb5 HR.out.lt)
                 have hl5 := count_look C5.out HXS2.out
                 rw [HCX.out] at hl5
                 clear hb5))
            go_roundw
            case rel => exact ⟨1, rfl, by omega, Lib.hid (by rw [HLK.out]; exact C5.out), Lib.hid (fun j hj => by
              by_cases e : j = 0
              · subst e; exact HFR.out
              · exact HFA.out j (by omega)), R5, B5, G5, rfl⟩
            case measure => simp [intOf]; omega
      · have hkb : (k : Int) ≤ 2000001 := by have := HPL.out; have := HN.out; omega
        have hk0i : (0 : Int) < (k : Int) := by omega
        obtain ⟨E, hE⟩ : ∃ E, cnt X (((partsB s).take k).drop 1) = E := ⟨_, rfl⟩
        obtain ⟨D, hD⟩ : ∃ D, cnt X (((partsB s).take k).drop 1 ++ [X]) = D := ⟨_, rfl⟩
        have hlen : (((partsB s).take k).drop 1).length ≤ 2000000 := by have := HPL.out; rw [List.length_drop, List.length_take]; omega
        have hl1 := count_look HC.out HXS.out
        obtain ⟨w4, hu, hc4, hg4⟩ := count_put HC.out hlen HXS.out
        rw [hE] at hl1 hu
        have hEb : (0 : Int) ≤ (E : Int) ∧ (E : Int) ≤ 2000000 := by have := cnt_le X (((partsB s).take k).drop 1); omega
        have HCX := Lib.hid hD
        have HLK : Hid (((partsB s).take (k + 1)).drop 1 = ((partsB s).take k).drop 1 ++ [X]) := Lib.hid (by rw [drop_take_snoc (by rw [← HN.out]; exact hk) (by omega), HXE.out])
        have HC4 := Lib.hid hc4
        have hbm : w.heap.size ≤ w2.heap.size := HB2.out.size
        have HB4 : Hid (Below w.heap.size w w4) := Lib.hid (HB.out.grown hg4 HB.out.size (fun k hk => by injection hk with hk; omega))
        have HR4 : Hid (Row w4 w.heap.size 9 ((partsB s).map Value.string)) := Lib.hid (HR.out.grown hg4 (fun e => by injection e with e; have := HB2lt.out; omega))
        have HG4 : Hid (GlobP w4) := Lib.hid (glob_far HGW.out HB4.out)
        clear hD hE hlen hc4 hg4 hk0
        cases hnb : namedB X with
        | false =>
          have HNB := Lib.hid hnb
          have HNO : Hid (namesB s n = false) := Lib.hid (names_no (k := k) (by rw [← HN.out]; exact hk) (by unfold freshAt; rw [HXE.out, HNB.out, Bool.false_and]))
          clear hnb
          go_wp2_with (first
            | (go_at_call 65; refine (named_any X _ HXS.out HG4.out).mono ?_; rw [HNB.out]; rintro en w5 ⟨rfl, hb5⟩
               have G5 := Lib.hid (HG4.out.below hb5)
               have C5 := Lib.hid (HC4.out.below hb5 HC4.out.lt)
               have B5 := Lib.hid (HB4.out.trans (below_low hb5 HB4.out.size))
               have R5 := Lib.hid (HR4.out.below hb5 HR4.out.lt)
               have hl5 := count_look C5.out HXS2.out
               rw [HCX.out] at hl5
               clear hb5))
          go_ret
          exact ⟨ret_bool HNO.out, B5.out⟩
        | true =>
          have HNB := Lib.hid hnb
          clear hnb
          by_cases hc1 : 1 < D
          · have hc1i : (1 : Int) < (D : Int) := by omega
            have HNO : Hid (namesB s n = false) := Lib.hid (names_no (k := k) (by rw [← HN.out]; exact hk) (by unfold freshAt; rw [HXE.out, HNB.out, HLK.out, HCX.out, decide_eq_false (by omega)]; rfl))
            clear hc1
            go_wp2_with (first
              | (go_at_call 65; refine (named_any X _ HXS.out HG4.out).mono ?_; rw [HNB.out]; rintro en w5 ⟨rfl, hb5⟩
                 have G5 := Lib.hid (HG4.out.below hb5)
                 have C5 := Lib.hid (HC4.out.below hb5 HC4.out.lt)
                 have B5 := Lib.hid (HB4.out.trans (below_low hb5 HB4.out.size))
                 have R5 := Lib.hid (HR4.out.below hb5 HR4.out.lt)
                 have hl5 := count_look C5.out HXS2.out
                 rw [HCX.out] at hl5
                 clear hb5))
            go_ret
            exact ⟨ret_bool HNO.out, B5.out⟩
          · have hc1i : ¬ (1 : Int) < (D : Int) := by omega
            have HFR : Hid (freshAt (partsB s) k = true) := Lib.hid (by unfold freshAt; rw [HXE.out, HNB.out, HLK.out, HCX.out, decide_eq_true hc1]; rfl)
            clear hc1
            go_wp2_with (first
              | (go_at_call 65; refine (named_any X _ HXS.out HG4.out).mono ?_; rw [HNB.out]; rintro en w5 ⟨rfl, hb5⟩
                 have G5 := Lib.hid (HG4.out.below hb5)
                 have C5 := Lib.hid (HC4.out.below hb5 HC4.out.lt)
                 have B5 := Lib.hid (HB4.out.trans (below_low hb5 HB4.out.size))
                 have R5 := Lib.hid (HR4.out.below hb5 HR4.out.lt)
                 have hl5 := count_look C5.out HXS2.out
                 rw [HCX.out] at hl5
                 clear hb5))
            go_roundw
            case rel => exact ⟨k + 1, by go_num, by omega, Lib.hid (by rw [HLK.out]; exact C5.out), Lib.hid (fun j hj => by
              by_cases e : j = k
              · subst e; exact HFR.out
              · exact HFA.out j (by omega)), R5, B5, G5, rfl⟩
            case measure => simp [intOf]; omega
    · obtain rfl : k = N := by omega
      have HFN : Hid (∀ j, j < (partsB s).length → freshAt (partsB s) j = true) := Lib.hid (fun j hj => HFA.out j (by rw [HN.out]; exact hj))
      clear hk hkN
      by_cases hn : (k : Int) = n
      · have hni : ((k : Int) == n) = true := beq_iff_eq.2 hn
        have HY : Hid (namesB s n = true) := Lib.hid (by unfold namesB; rw [decide_eq_true HFN.out, decide_eq_true (by rw [← HN.out]; exact hn)]; rfl)
        clear hn
        go_wp2_with fail
        go_ret
        exact ⟨ret_bool (by rw [HY.out]), HB.out⟩
      · have hni : ((k : Int) == n) = false := beq_eq_false_iff_ne.2 hn
        have HY : Hid (namesB s n = false) := Lib.hid (by unfold namesB; rw [decide_eq_true HFN.out, decide_eq_false (by rw [← HN.out]; exact hn)]; rfl)
        clear hn
        go_wp2_with fail
        go_ret
        exact ⟨ret_bool (by rw [HY.out]), HB.out⟩
end Go.Proofs.YtmecmlpoallpcaaGreatDoor
