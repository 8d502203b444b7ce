/- Texts of this proof, put together: PrA, Close, KnownP. -/
import Derived.Test.YtmecmlpoallpcaaGreatDoorM35
import Derived.Test.YtmecmlpoallpcaaGreatDoorM23
set_option linter.all false
/- peep.Program: functions of the call's own; clones of ints and texts. -/
namespace Go.Proofs.YtmecmlpoallpcaaGreatDoor
set_option linter.unusedVariables false
open Go.RowKit Go.Proofs.PeepPlain

theorem info47 : (Tryz.prog.info? 47).map (fun i => (i.zero, i.size, i.bytes)) = some (some (.agg #[.string ⟨#[]⟩, .int .i64 0, .int .i64 0, .slice none 0 0, .int .i64 0, .slice none 0 0]), 6, 88) := by kernel_rfl
theorem flatFn_append (l m : List Fn) : flatFn (l ++ m) = flatFn l ++ flatFn m := by simp [flatFn]
theorem cellsFn_one (f : Fn) : ∀ u ∈ cellsFn f, u.oneCell' = true := by
  intro u hu
  simp [cellsFn] at hu
  rcases hu with rfl | rfl | rfl | rfl | rfl | rfl <;> rfl
/-- v, the call's own, holds the functions l. -/
def OwnF (Bo : Nat) (w : World) (v : Value) (l : List Fn) : Prop := w.ownsRow Bo 47 6 v l.length (flatFn l)
/-- append(x, f), x the call's own. -/
theorem put_f {ops : Array Oper} {rest : List Oper} {o : Oper} {a : Act} {Q : Exit → Act → World → Prop} (s x : Operand) (Bo : Nat) (v : Value) (l : List Fn) (f : Fn) (w : World) (cs : Array Value)
    (hgd : o.guard = none) (ho : o.op = .call { callee := .builtin .append, args := #[s, x], argTypes := #[22, 22] })
    (hs : a.eval s = v) (hown : OwnF Bo w v l) (hcs : cs = (cellsFn f).toArray) (H : Nat) (hx : a.eval x = .slice (some ⟨H, 0, none⟩) 1 1) (hH : w.heap.size = H)
    (hlim : l.length ≤ 2000000) (hbase : Bo ≤ w.heap.size)
    (h : ∀ g cap w', OwnF Bo w' (.slice (some ⟨g, 0, none⟩) (l.length + 1) cap) (l ++ [f]) → w.grownBy w' v.ownBlock → (v.ownBlock = some g ∨ g = w.heap.size + 1) → g < w'.heap.size → wpList Tryz.prog ops Q rest (a.put o.dst (.slice (some ⟨g, 0, none⟩) (l.length + 1) cap)) w') : wpList Tryz.prog ops Q (o :: rest) a (w.alloc (.cells cs 47)) := by
  subst hcs hH
  obtain ⟨i5, hi, hz, hs5, hy⟩ := info_parts info47
  refine wpList_append_lies (w.alloc (.cells (cellsFn f).toArray 47)) hgd s x 22 ho Bo 47 i5 _ 6 88 Tryz.underlying22 hi hz hs5 hy rfl (by decide) v l.length (flatFn l) hs (World.ownsRow.alloc hown _) ⟨w.heap.size, 0, none⟩ 1 1 (cellsFn f) hx rfl ?_ (cellsFn_one f) (by omega) (by simp only [maxLen]; omega) (by omega) (by simp; omega) _ rfl ?_
  · intro j u hu
    have := (Row.made w 47 (cellsFn f)).cell j
    rw [Addr.add_lit, Nat.zero_add, this]
    exact hu
  · intro g cap w1 ho1 hg1 hat hlt
    have hsz : (w.alloc (.cells (cellsFn f).toArray 47)).heap.size = w.heap.size + 1 := by show (w.heap.push _).size = _; rw [Array.size_push]
    refine h g cap w1 ?_ ((World.grownBy_alloc w _ _).trans hg1) (by rw [hsz] at hat; exact hat) hlt
    show World.ownsRow _ _ _ _ _ _ _
    rw [List.length_append, List.length_singleton, flatFn_append]
    have e : flatFn [f] = cellsFn f := by simp [flatFn]
    rw [e]
    exact ho1
/-- A clone's memory. -/
theorem clone_ints (TA : Option Addr) (tc : Nat) (l : List Int) (w : World) (hL : Lies w TA (l.map (Value.int .i64))) (hl : l.length ≤ 2000000) :
    Calls Tryz.prog 25 #[.slice TA l.length tc] w fun e w' => ∃ A' c', e = .returned (.slice A' l.length c') ∧ Lies w' A' (l.map (Value.int .i64)) ∧ (∀ a, A' = some a → w.heap.size ≤ a.block ∧ a.block < w'.heap.size) ∧ Below w.heap.size w w' := by
  have fin : ∀ (e : Ending) (w' : World), (∃ v', e = .returned v' ∧ w'.ownsRow w.heap.size 3 1 v' l.length (l.map (Value.int .i64)) ∧ v' ≠ .slice none 0 0 ∧ Below w.heap.size w w') → ∃ A' c', e = .returned (.slice A' l.length c') ∧ Lies w' A' (l.map (Value.int .i64)) ∧ (∀ a, A' = some a → w.heap.size ≤ a.block ∧ a.block < w'.heap.size) ∧ Below w.heap.size w w' := by
    rintro e w' ⟨v', rfl, ho, _, hb⟩
    have ho : OwnI w.heap.size w' v' l := ho
    obtain ⟨A', c', rfl⟩ := ho.shape
    refine ⟨A', c', rfl, ho.ints, fun a ha => ?_, hb⟩
    subst ha
    exact ho.lt (g := a.block) rfl
  cases hTA : TA with
  | none =>
    subst hTA
    by_cases h0 : 0 < l.length
    · obtain ⟨b, off, e, _⟩ := hL (by simpa using h0)
      cases e
    · have hn : l = [] := List.eq_nil_of_length_eq_zero (by omega)
      subst hn
      refine (Tryz.slices_Clone_int_nil 0 tc w).mono ?_
      rintro e w' ⟨rfl, rfl⟩
      exact ⟨none, 0, rfl, Lies.none_ _ _, fun a ha => (by cases ha), Below.refl _ _⟩
  | some a =>
    by_cases h0 : 0 < l.length
    · obtain ⟨b, off, e, hlt, hc⟩ := hL (by simpa using h0)
      rw [hTA] at e
      injection e with e
      subst e
      have := Tryz.slices_Clone_int b off l.length tc l w (Nat.le_refl _) (by omega) (fun j hj => hc j _ (by rw [List.getElem?_map, List.getElem?_eq_getElem hj, List.getD_eq_getElem?_getD, List.getElem?_eq_getElem hj]; rfl))
      rw [List.take_length] at this
      exact this.mono fin
    · have hn : l = [] := List.eq_nil_of_length_eq_zero (by omega)
      subst hn
      exact (Tryz.slices_Clone_int_zero a tc w).mono fin
theorem own_strings {w : World} {B : Nat} {v : Value} {l : List ByteArray} (h : w.ownsRow B 9 1 v l.length (l.map Value.string)) : ∃ A c, v = .slice A l.length c ∧ Lies w A (l.map Value.string) ∧ ∀ a, A = some a → B ≤ a.block ∧ a.block < w.heap.size := by
  have hlt := h.lt
  rcases h.2 with ⟨rfl, h0⟩ | ⟨g, cap, cur, rfl, hb, hg, hr⟩
  · rw [h0]
    refine ⟨none, 0, rfl, fun hp => ?_, fun a ha => by cases ha⟩
    rw [List.length_map] at hp
    omega
  · refine ⟨_, cap, rfl, fun hp => ⟨g, 0, rfl, (hlt g rfl).2, fun j u hu => ?_⟩, fun a ha => ?_⟩
    · have := h.cells (g := g) rfl j u hu
      rw [Addr.add_lit] at this
      exact this
    · injection ha with ha
      subst ha
      exact hlt g rfl
theorem clone_texts (GA : Option Addr) (gc : Nat) (l : List ByteArray) (w : World) (hL : Lies w GA (l.map Value.string)) (hl : l.length ≤ 2000000) :
    Calls Tryz.prog 24 #[.slice GA l.length gc] w fun e w' => ∃ A' c', e = .returned (.slice A' l.length c') ∧ Lies w' A' (l.map Value.string) ∧ (∀ a, A' = some a → w.heap.size ≤ a.block ∧ a.block < w'.heap.size) ∧ Below w.heap.size w w' := by
  have fin : ∀ (e : Ending) (w' : World), (∃ v', e = .returned v' ∧ w'.ownsRow w.heap.size 9 1 v' l.length (l.map Value.string) ∧ v' ≠ .slice none 0 0 ∧ Below w.heap.size w w') → ∃ A' c', e = .returned (.slice A' l.length c') ∧ Lies w' A' (l.map Value.string) ∧ (∀ a, A' = some a → w.heap.size ≤ a.block ∧ a.block < w'.heap.size) ∧ Below w.heap.size w w' := by
    rintro e w' ⟨v', rfl, ho, _, hb⟩
    obtain ⟨A', c', rfl, h1, h2⟩ := own_strings ho
    exact ⟨A', c', rfl, h1, h2, hb⟩
  cases hTA : GA with
  | none =>
    subst hTA
    by_cases h0 : 0 < l.length
    · obtain ⟨b, off, e, _⟩ := hL (by simpa using h0)
      cases e
    · have hn : l = [] := List.eq_nil_of_length_eq_zero (by omega)
      subst hn
      refine (Tryz.slices_Clone_string_nil 0 gc w).mono ?_
      rintro e w' ⟨rfl, rfl⟩
      exact ⟨none, 0, rfl, Lies.none_ _ _, fun a ha => (by cases ha), Below.refl _ _⟩
  | some a =>
    by_cases h0 : 0 < l.length
    · obtain ⟨b, off, e, hlt, hc⟩ := hL (by simpa using h0)
      rw [hTA] at e
      injection e with e
      subst e
      have := Tryz.slices_Clone_string b off l.length gc l w (Nat.le_refl _) (by omega) (fun j hj => hc j _ (by rw [List.getElem?_map, List.getElem?_eq_getElem hj, List.getD_eq_getElem?_getD, List.getElem?_eq_getElem hj]; rfl))
      rw [List.take_length] at this
      exact this.mono fin
    · have hn : l = [] := List.eq_nil_of_length_eq_zero (by omega)
      subst hn
      exact (Tryz.slices_Clone_string_zero a gc w).mono fin
/-- A function's own parts in memory. -/
structure PartAt (B : Nat) (w : World) (f : Fn) : Prop where
  code : InsAt w f.CA f.code
  taken : Lies w f.TA (f.taken.map (Value.int .i64))
  lowC : ∀ a, f.CA = some a → B ≤ a.block ∧ a.block < w.heap.size
  lowT : ∀ a, f.TA = some a → B ≤ a.block ∧ a.block < w.heap.size
theorem Lies.moved {w w' : World} {A : Option Addr} {cs : List Value} (h : Lies w A cs) (hs : w.heap.size ≤ w'.heap.size) (hf : ∀ a, A = some a → w'.heap[a.block]? = w.heap[a.block]?) : Lies w' A cs := fun hp => by
  obtain ⟨b, off, e, hlt, hc⟩ := h hp
  exact ⟨b, off, e, Nat.lt_of_lt_of_le hlt hs, fun j u hu => (World.cell?_of_block (a := ⟨b, off + j, none⟩) (show w'.heap[b]? = w.heap[b]? from hf _ e)).trans (hc j u hu)⟩
theorem PartAt.moved {B : Nat} {w w' : World} {f : Fn} (h : PartAt B w f) (hs : w.heap.size ≤ w'.heap.size) (hf : ∀ k, B ≤ k → k < w.heap.size → ((∀ a, f.CA = some a → a.block = k) ∨ (∀ a, f.TA = some a → a.block = k)) → w'.heap[k]? = w.heap[k]?) : PartAt B w' f where
  code := Lies.moved h.code hs fun a ha => hf _ (h.lowC a ha).1 (h.lowC a ha).2 (.inl fun b hb => by rw [ha] at hb; injection hb with hb; rw [hb])
  taken := Lies.moved h.taken hs fun a ha => hf _ (h.lowT a ha).1 (h.lowT a ha).2 (.inr fun b hb => by rw [ha] at hb; injection hb with hb; rw [hb])
  lowC := fun a ha => ⟨(h.lowC a ha).1, Nat.lt_of_lt_of_le (h.lowC a ha).2 hs⟩
  lowT := fun a ha => ⟨(h.lowT a ha).1, Nat.lt_of_lt_of_le (h.lowT a ha).2 hs⟩
theorem PartAt.below {B : Nat} {w w' : World} {f : Fn} (h : PartAt B w f) (hb : Below w.heap.size w w') : PartAt B w' f :=
  h.moved hb.size fun k _ hk _ => hb.block k hk
/-- Where a function's parts do not lie. -/
def Sep (f : Fn) (g : Nat) : Prop := (∀ a, f.CA = some a → a.block ≠ g) ∧ ∀ a, f.TA = some a → a.block ≠ g
theorem PartAt.grown {B : Nat} {w w' : World} {f : Fn} {row : Option Nat} (h : PartAt B w f) (hg : w.grownBy w' row) (hs : ∀ g, row = some g → Sep f g) : PartAt B w' f where
  code := Lies.moved h.code hg.size fun a ha => hg.block _ (h.lowC a ha).2 (fun e => (hs _ e.symm).1 a ha rfl)
  taken := Lies.moved h.taken hg.size fun a ha => hg.block _ (h.lowT a ha).2 (fun e => (hs _ e.symm).2 a ha rfl)
  lowC := fun a ha => ⟨(h.lowC a ha).1, Nat.lt_of_lt_of_le (h.lowC a ha).2 hg.size⟩
  lowT := fun a ha => ⟨(h.lowT a ha).1, Nat.lt_of_lt_of_le (h.lowT a ha).2 hg.size⟩
theorem PartAt.set {B : Nat} {w : World} {f : Fn} (h : PartAt B w f) {g i : Nat} (hg : g < B) (v : Value) : PartAt B (w.setCell ⟨g, i, none⟩ v) f where
  code := Lies.moved h.code (by simp [World.setCell]) fun a ha => heap_setCell_other _ _ _ _ (by have := (h.lowC a ha).1; show a.block ≠ g; omega)
  taken := Lies.moved h.taken (by simp [World.setCell]) fun a ha => heap_setCell_other _ _ _ _ (by have := (h.lowT a ha).1; show a.block ≠ g; omega)
  lowC := fun a ha => by have := h.lowC a ha; simpa [World.setCell] using this
  lowT := fun a ha => by have := h.lowT a ha; simpa [World.setCell] using this
/-- What a function is made to be. -/
def MadeOf (f f' : Fn) : Prop := f'.name = f.name ∧ f'.params = f.params ∧ f'.slots = f.slots ∧ f'.taken = f.taken ∧ f'.around = f.around ∧ f'.code = shorter o0_fair f.code
def Made (fs fs' : List Fn) : Prop := fs'.length = fs.length ∧ ∀ i, (h : i < fs.length) → (h' : i < fs'.length) → MadeOf fs[i] fs'[i]
theorem made_snoc {fs fk : List Fn} {k : Nat} (hk : k < fs.length) (h : Made (fs.take k) fk) {f : Fn} (hf : MadeOf fs[k] f) : Made (fs.take (k + 1)) (fk ++ [f]) := by
  have hlk : fk.length = k := by rw [h.1, List.length_take]; omega
  refine ⟨by rw [List.length_append, List.length_singleton, hlk, List.length_take]; omega, fun i hi hi' => ?_⟩
  rw [List.getElem_take]
  by_cases e : i < k
  · rw [List.getElem_append_left (by omega)]
    have := h.2 i (by rw [List.length_take]; omega) (by omega)
    rw [List.getElem_take] at this
    exact this
  · have hik : i = k := by rw [List.length_take] at hi; omega
    subst hik
    rw [List.getElem_append_right (by omega)]
    simp only [hlk, Nat.sub_self, List.getElem_cons_zero]
    exact hf
end Go.Proofs.YtmecmlpoallpcaaGreatDoor

/- Right code made shorter is right code. No walk. -/
namespace Go.Proofs.YtmecmlpoallpcaaGreatDoor
set_option linter.unusedVariables false
open Go.RowKit Go.Proofs.PeepPlain

/-- What holds of each instruction of right code, wherever it stands. -/
structure FineI (fs : List Fn) (gl f : Nat) (x : Ins) : Prop where
  word : (formOf x.op).word.toList.isEmpty = false
  pos : 0 ≤ x.pos ∧ x.pos ≤ 60000
  says : saysB x = true
  left : x.b = 0 ∨ leftB x = true
  num : ¬ jumps x.op → numberedB fs gl f x = true
theorem jump_text {op : Int} (h : jumps op) : (formOf op).text = 0 := by
  rcases h with h | h | h | h | h <;> (rw [h]; rfl)
theorem says_turn {i : Ins} (h : jumps i.op) (a : Int) : saysB { i with a := a } = saysB i := by
  have ht := jump_text h
  unfold saysB
  dsimp only
  rw [ht]
  rfl
theorem fineI_of {fs : List Fn} {gl f k : Nat} (hf : f < fs.length) (hk : k < fs[f].code.length) (h : fineB fs gl f k = true) : FineI fs gl f fs[f].code[k] := by
  have p := fine_parts hf hk h
  exact ⟨p.2.2.2.2.2.1, ⟨p.2.2.2.2.2.2.1, p.2.2.2.2.2.2.2⟩, p.2.1, p.2.2.1, fun _ => p.1⟩
theorem says3 {x : Ins} (h : x.op = 3) (hs : saysB x = true) : ∃ n, digitsOf x.text = some n := by
  unfold saysB at hs
  dsimp only at hs
  rw [h, show (formOf 3).text = 12 from rfl, if_pos rfl] at hs
  unfold digitsB at hs
  cases e : digitsOf x.text with
  | none => rw [e] at hs; cases hs
  | some n => exact ⟨n, rfl⟩
theorem num6 {fs : List Fn} {gl f : Nat} {x : Ins} (h : x.op = 6) (hn : numberedB fs gl f x = true) : x.a = 0 ∨ x.a = 1 := by
  unfold numberedB at hn
  dsimp only at hn
  rw [h, show (formOf 6).a = 1 from rfl, if_neg (by decide), if_pos rfl] at hn
  have := within_are hn
  omega
theorem fineI_ok {fs : List Fn} {gl f : Nat} {x : Ins} (h : FineI fs gl f x) : InsOk x := by
  refine ⟨fun h3 => says3 h3 h.says, fun h6 => num6 h6 (h.num (fun hj => ?_))⟩
  rw [h6] at hj
  rcases hj with h | h | h | h | h <;> exact absurd h (by decide)
theorem word_ok {f : PeepPlain.Form} (h : decide (f.word.size = 0) = false) : f.word.toList.isEmpty = false := by rw [← toList_none]; exact h
theorem word3 : (formOf 3).word.toList.isEmpty = false := word_ok (by kernel_rfl)
theorem word6 : (formOf 6).word.toList.isEmpty = false := word_ok (by kernel_rfl)
theorem word34 : (formOf 34).word.toList.isEmpty = false := word_ok (by kernel_rfl)
theorem fineI_lay {fs : List Fn} {gl f : Nat} {d : Cst} (h : CstOk d) {p : Int} (hp : 0 ≤ p ∧ p ≤ 60000) : FineI fs gl f (layOf d p) := by
  cases d with
  | int n =>
    refine ⟨word3, hp, ?_, .inl rfl, fun _ => ?_⟩
    · unfold saysB layOf
      dsimp only
      rw [show (formOf 3).text = 12 from rfl, if_pos rfl]
      unfold digitsB
      rw [digits_itoa h.1 h.2]
      rfl
    · unfold numberedB layOf
      dsimp only
      rw [show (formOf 3).a = 0 from rfl, if_pos rfl]
      rfl
  | flag n =>
    refine ⟨word6, hp, ?_, .inl rfl, fun _ => ?_⟩
    · unfold saysB layOf
      dsimp only
      rw [show (formOf 6).text = 0 from rfl]
      rfl
    · unfold numberedB layOf
      dsimp only
      rw [show (formOf 6).a = 1 from rfl, if_neg (by decide), if_pos rfl]
      have h : n = 0 ∨ n = 1 := h
      rw [decide_eq_true (show 0 ≤ n by omega), decide_eq_true (show n < 2 by omega)]
      rfl
theorem fineI_closed (fs : List Fn) (gl f : Nat) : Closed O0 (FineI fs gl f) where
  turn := fun i x hj h => ⟨h.word, h.pos, by rw [says_turn hj]; exact h.says, h.left.imp id (fun hl => by
      unfold leftB at hl
      simp only [Bool.and_eq_true, decide_eq_true_eq] at hl
      exfalso
      have := hl.1
      rw [this] at hj
      rcases hj with h | h | h | h | h <;> exact absurd h (by decide)), fun hn => absurd hj hn⟩
  un := fun i k c d _ _ hk hc hd => fineI_lay (unOf_ok (op := i.text) (a := c) hd) hk.pos
  bi := fun i j k b c d _ _ hj hk hb hc hd => fineI_lay (biOf_ok (op := i.text) (b := b) (a := c) (cst_ok (fineI_ok hj) hb) hd) hj.pos
  branch := fun i _ h => ⟨word34, h.pos, rfl, .inl rfl, fun hn => absurd jump_jumps hn⟩
section
variable {fs fs' : List Fn} (hM : Made fs fs')
include hM
theorem made_getD (i : Nat) : (fs'.getD i default).name = (fs.getD i default).name ∧ (fs'.getD i default).params = (fs.getD i default).params ∧ (fs'.getD i default).slots = (fs.getD i default).slots ∧ (fs'.getD i default).taken = (fs.getD i default).taken ∧ (fs'.getD i default).around = (fs.getD i default).around := by
  by_cases h : i < fs.length
  · have h' : i < fs'.length := by rw [hM.1]; exact h
    rw [getD_at0 h, getD_at0 h']
    obtain ⟨a, b, c, d, e, _⟩ := hM.2 i h h'
    exact ⟨a, b, c, d, e⟩
  · have h' : ¬ i < fs'.length := by rw [hM.1]; exact h
    rw [List.getD_eq_getElem?_getD, List.getD_eq_getElem?_getD, List.getElem?_eq_none (by omega), List.getElem?_eq_none (by omega)]
    exact ⟨rfl, rfl, rfl, rfl, rfl⟩
theorem made_headed (i : Nat) (l : List ByteArray) : headedB fs' i l = headedB fs i l := by
  obtain ⟨a, b, c, d, e⟩ := made_getD hM i
  obtain ⟨a2, b2, c2, d2, e2⟩ := made_getD hM (fs.getD i default).around.toNat
  unfold headedB paramsB headZero headDecl headFunc
  rw [a, b, c, d, e, c2, d2]
theorem made_names (i : Nat) (l : List ByteArray) : headNames fs' i l = headNames fs i l := by
  obtain ⟨a, b, c, d, e⟩ := made_getD hM i
  unfold headNames paramsB
  rw [a, b, c, e]
theorem made_namesTo (k : Nat) : namesTo fs' k = namesTo fs k := by
  induction k with
  | zero => rfl
  | succ k ih => show headNames fs' k (namesTo fs' k) = headNames fs k (namesTo fs k); rw [ih, made_names hM]
theorem made_numbered {gl f : Nat} {x : Ins} (hj : ¬ jumps x.op) : numberedB fs' gl f x = numberedB fs gl f x := by
  obtain ⟨a, b, c, d, e⟩ := made_getD hM f
  obtain ⟨a2, b2, c2, d2, e2⟩ := made_getD hM x.a.toNat
  have h10 : (formOf x.op).a ≠ 10 := fun h => hj (of_decide_eq_true ((goes_form x.op).symm.trans (decide_eq_true h)))
  unfold numberedB
  dsimp only
  rw [c, d, e2, hM.1]
  generalize (formOf x.op).a = t at h10
  by_cases t0 : t = 0
  · rw [if_pos t0, if_pos t0]
  rw [if_neg t0, if_neg t0]
  by_cases t1 : t = 1
  · rw [if_pos t1, if_pos t1]
  rw [if_neg t1, if_neg t1]
  by_cases t2 : t = 2
  · rw [if_pos t2, if_pos t2]
  rw [if_neg t2, if_neg t2]
  by_cases t3 : t = 3
  · rw [if_pos t3, if_pos t3]
  rw [if_neg t3, if_neg t3]
  by_cases t4 : t = 4
  · rw [if_pos t4, if_pos t4]
  rw [if_neg t4, if_neg t4]
  by_cases t5 : t = 5
  · rw [if_pos t5, if_pos t5]
  rw [if_neg t5, if_neg t5]
  by_cases t6 : t = 6
  · rw [if_pos t6, if_pos t6]
  rw [if_neg t6, if_neg t6]
  by_cases t7 : t = 7
  · rw [if_pos t7, if_pos t7]
  rw [if_neg t7, if_neg t7]
  by_cases t8 : t = 8
  · rw [if_pos t8, if_pos t8]
  rw [if_neg t8, if_neg t8]
  by_cases t9 : t = 9
  · rw [if_pos t9, if_pos t9]
  rw [if_neg t9, if_neg t9]
  rw [if_neg h10, if_neg h10]
theorem made_sum (h : ∀ i, (hi : i < fs.length) → (hi' : i < fs'.length) → fs'[i].code.length ≤ fs[i].code.length) : ∀ k, k ≤ fs.length → sumTo fs' k ≤ sumTo fs k := by
  intro k
  induction k with
  | zero => intro _; exact Nat.le_refl _
  | succ k ih =>
    intro hk
    have hk' : k < fs'.length := by rw [hM.1]; omega
    rw [sumTo_succ fs' k hk', sumTo_succ fs k (by omega)]
    have := ih (by omega)
    have := h k (by omega) hk'
    omega
end
theorem all_of {P : Ins → Prop} {l : List Ins} (h : ∀ k, (hk : k < l.length) → P l[k]) : All P l := fun k hk => by
  rw [getD_at0 hk]
  exact h k hk
/-- Right code made shorter is right code. -/
theorem right_made {fs fs' : List Fn} {gs : List ByteArray} (R : RightP fs gs) (hM : Made fs fs') : RightP fs' gs := by
  have hcode : ∀ i, (hi : i < fs.length) → (hi' : i < fs'.length) → fs'[i].code = shorter o0_fair fs[i].code := fun i hi hi' => (hM.2 i hi hi').2.2.2.2.2
  have hdone := fun i (hi : i < fs.length) => shorter_done o0_fair _ fs[i].code (Nat.le_refl _) (R.wf hi)
  have hlen : ∀ i, (hi : i < fs.length) → (hi' : i < fs'.length) → fs'[i].code.length ≤ fs[i].code.length := fun i hi hi' => by
    rw [hcode i hi hi']
    exact (hdone i hi).2
  have hL := hM.1
  refine ⟨?_, R.globals, fun i hi => ?_, fun i hi => ?_, fun i k hi hk => ?_, fun i hi => ?_⟩
  · have m := many_are R.many
    have hsum := made_sum hM hlen fs.length (Nat.le_refl _)
    unfold manyB
    rw [decide_eq_true (show 1 ≤ fs'.length by omega), decide_eq_true (show fs'.length ≤ 20000 by omega), decide_eq_true (show gs.length ≤ 20000 by omega), decide_eq_true (show sumTo fs' fs'.length ≤ 60000 by rw [hL]; omega)]
    refine List.all_eq_true.2 fun x hx => ?_
    obtain ⟨i, hi, rfl⟩ := List.getElem_of_mem hx
    obtain ⟨a, b, c, d, e, _⟩ := hM.2 i (by omega) hi
    have := m.2.2.2.2 i (by omega)
    rw [c, d, decide_eq_true this.1, decide_eq_true this.2]
    rfl
  · rw [made_headed hM, made_namesTo hM]
    exact R.heads i (by omega)
  · have := (hdone i (by omega)).1.wf.pos
    rw [hcode i (by omega) hi]
    omega
  · have hi0 : i < fs.length := by omega
    have W := (hdone i hi0).1.wf
    have hall : All (FineI fs gs.length i) fs[i].code := all_of fun k hk => fineI_of hi0 hk (R.fine i k hi0 hk)
    have hall2 := shorter_each o0_fair (fineI_closed fs gs.length i) _ fs[i].code (Nat.le_refl _) hall
    rw [← hcode i hi0 hi] at W hall2
    have hx := hall2 k hk
    rw [getD_at0 hk] at hx
    have hnum : numberedB fs' gs.length i fs'[i].code[k] = true := by
      by_cases hj : jumps fs'[i].code[k].op
      · have hj2 : jumps (PeepPlain.opAt fs'[i].code k) := by unfold PeepPlain.opAt; rw [getD_at0 hk]; exact hj
        have h1 := W.low k hk hj2
        have h2 := W.high k hk hj2
        unfold aAt at h2
        rw [getD_at0 hk] at h1 h2
        have h10 : (formOf fs'[i].code[k].op).a = 10 := of_decide_eq_true ((goes_form _).trans (decide_eq_true hj))
        unfold numberedB
        dsimp only
        rw [h10, getD_at0 hi]
        show (decide (0 ≤ fs'[i].code[k].a) && decide (fs'[i].code[k].a < fs'[i].code.length)) = true
        rw [decide_eq_true h1, decide_eq_true (by omega)]
        rfl
      · rw [made_numbered hM hj]
        exact hx.num hj
    have hback : backB fs'[i].code k fs'[i].code[k] = false := by
      unfold backB
      by_cases hj : jumps fs'[i].code[k].op
      · by_cases hle : fs'[i].code[k].a ≤ (k : Int)
        · have hj2 : jumps (PeepPlain.opAt fs'[i].code k) := by unfold PeepPlain.opAt; rw [getD_at0 hk]; exact hj
          have h1 := W.low k hk hj2
          have hb := W.back k hk hj2
          unfold aAt at hb
          rw [getD_at0 hk] at h1 hb
          rcases hb (by omega) with h | h
          · rw [decide_eq_false (show ¬ PeepPlain.opAt fs'[i].code fs'[i].code[k].a.toNat ≠ 1 from fun hn => hn h), Bool.and_false, Bool.false_and]
          · rw [decide_eq_false (show ¬ PeepPlain.opAt fs'[i].code fs'[i].code[k].a.toNat ≠ 2 from fun hn => hn h), Bool.and_false]
        · rw [decide_eq_false hle, Bool.and_false, Bool.false_and, Bool.false_and]
      · rw [decide_eq_false hj, Bool.false_and, Bool.false_and, Bool.false_and]
    have hlast : lastB fs'[i].code k fs'[i].code[k] = true := by
      unfold lastB
      by_cases hk1 : (k : Int) < fs'[i].code.length - 1
      · rw [decide_eq_true hk1]; rfl
      · have hkl : fs'[i].code.length - 1 = k := by omega
        have hl := W.last
        rw [hkl] at hl
        unfold PeepPlain.opAt at hl
        rw [getD_at0 hk] at hl
        rcases hl with h | h
        · rw [decide_eq_true h, Bool.or_true, Bool.true_or]
        · rw [decide_eq_true h, Bool.or_true]
    unfold fineB
    dsimp only
    rw [getD_at0 hi, getD_at0 hk, hx.word, decide_eq_true hx.pos.1, decide_eq_true hx.pos.2, hnum, hx.says, hback, hlast]
    rcases hx.left with h | h
    · rw [decide_eq_true h]; rfl
    · rw [h, Bool.or_true]; rfl
  · rw [hcode i (by omega) hi]
    exact shorter_fits o0_fair e0_fair _ _ (Nat.le_refl _) (R.wf (by omega)) (R.fits i (by omega))
theorem right_pi {fs : List Fn} {gs : List ByteArray} (R : RightP fs gs) (hS : Small fs gs) {i : Nat} (hi : i < fs.length) : All PI fs[i].code := all_of fun k hk =>
  ⟨fineI_ok (fineI_of hi hk (R.fine i k hi hk)), hS.text _ (List.getElem_mem hi) _ (List.getElem_mem hk)⟩
/-- Twice is once. -/
theorem made_twice {fs fs' fs'' : List Fn} {gs : List ByteArray} (R : RightP fs gs) (h1 : Made fs fs') (h2 : Made fs' fs'') : ∀ i, (hi : i < fs'.length) → (hi2 : i < fs''.length) → fs''[i].name = fs'[i].name ∧ fs''[i].params = fs'[i].params ∧ fs''[i].slots = fs'[i].slots ∧ fs''[i].taken = fs'[i].taken ∧ fs''[i].around = fs'[i].around ∧ fs''[i].code = fs'[i].code := fun i hi hi2 => by
  obtain ⟨a, b, c, d, e, f⟩ := h2.2 i hi hi2
  have hi0 : i < fs.length := by rw [← h1.1]; exact hi
  have g := (h1.2 i hi0 hi).2.2.2.2.2
  exact ⟨a, b, c, d, e, by rw [f, g]; exact shorter_twice o0_fair (R.wf hi0)⟩
end Go.Proofs.YtmecmlpoallpcaaGreatDoor

/- The law's first example, plain: it is right code; what it becomes. -/
namespace Go.Proofs.YtmecmlpoallpcaaGreatDoor
set_option linter.unusedVariables false
open Go.RowKit Go.Proofs.PeepPlain

def t1 : ByteArray := ⟨#[49]⟩
def t2 : ByteArray := ⟨#[50]⟩
def t3 : ByteArray := ⟨#[51]⟩
def tp : ByteArray := ⟨#[43]⟩
def t0 : ByteArray := ⟨#[]⟩
def kc : List Ins := [⟨3, 0, 0, ⟨#[49]⟩, 0⟩, ⟨3, 0, 0, ⟨#[50]⟩, 0⟩, ⟨19, 0, 0, ⟨#[43]⟩, 0⟩, ⟨50, 0, 0, ⟨#[]⟩, 0⟩]
def kd : List Ins := [⟨3, 0, 0, ⟨#[51]⟩, 0⟩, ⟨50, 0, 0, ⟨#[]⟩, 0⟩]
theorem dig1 : digitsOf ⟨#[49]⟩ = some 1 := by kernel_rfl
theorem dig2 : digitsOf ⟨#[50]⟩ = some 2 := by kernel_rfl
theorem dig3 : digitsOf ⟨#[51]⟩ = some 3 := by kernel_rfl
theorem eff0 : E0.eff ⟨3, 0, 0, ⟨#[49]⟩, 0⟩ [] = some ([118], []) := by decide
theorem eff1 : E0.eff ⟨3, 0, 0, ⟨#[50]⟩, 0⟩ [118] = some ([118, 118], [118]) := by decide
theorem eff2 : ∃ r, E0.eff ⟨19, 0, 0, ⟨#[43]⟩, 0⟩ [118, 118] = some ([118], r) := ⟨_, rfl⟩
theorem eff3 : ∃ r, E0.eff ⟨50, 0, 0, ⟨#[]⟩, 0⟩ [118] = some r := ⟨_, rfl⟩
theorem no_jump {l : List Ins} (h : ∀ x ∈ l, ¬ jumps x.op) {k : Nat} : ¬ jumps (PeepPlain.opAt l k) := by
  unfold PeepPlain.opAt
  by_cases hk : k < l.length
  · rw [getD_at0 hk]
    exact h _ (List.getElem_mem hk)
  · rw [List.getD_eq_getElem?_getD, List.getElem?_eq_none (by omega)]
    decide
theorem kc_no : ∀ x ∈ kc, ¬ jumps x.op := by decide
theorem kd_no : ∀ x ∈ kd, ¬ jumps x.op := by decide
theorem marks_none {l : List Ins} (h : ∀ x ∈ l, ¬ jumps x.op) : marks l = List.replicate l.length false := by
  unfold marks
  rw [List.eq_replicate_iff]
  refine ⟨by simp, fun b hb => ?_⟩
  rw [List.mem_map] at hb
  obtain ⟨t, _, rfl⟩ := hb
  rw [decide_eq_false_iff_not]
  rintro ⟨k, _, hj, _⟩
  exact no_jump h hj
theorem threads_none {l : List Ins} (h : ∀ x ∈ l, ¬ jumps x.op) : PeepPlain.threads l = l := by
  unfold PeepPlain.threads
  rw [show l.map (turned l) = l.map id from List.map_congr_left fun x hx => by unfold turned; rw [if_neg (h x hx)]; rfl, List.map_id]
theorem idle_none {l : List Ins} (h : ∀ x ∈ l, ¬ jumps x.op) (hr : ∀ k, k < l.length → PeepPlain.Reach l k) : ¬ Some_ l (idle l) := by
  rintro ⟨k, hk, hi⟩
  rcases (idle_is l).2 k hk |>.1 hi with e | e
  · exact e (hr k hk)
  · exact no_jump h (k := k) (by rw [e.1]; exact jump_jumps)
theorem kc_reach : ∀ k, k < kc.length → PeepPlain.Reach kc k := by
  have h0 : PeepPlain.Reach kc 0 := .zero
  have h1 : PeepPlain.Reach kc 1 := .next h0 (by decide) (by decide) (by decide)
  have h2 : PeepPlain.Reach kc 2 := .next h1 (by decide) (by decide) (by decide)
  have h3 : PeepPlain.Reach kc 3 := .next h2 (by decide) (by decide) (by decide)
  intro k hk
  have hk : k < 4 := hk
  match k, hk with
  | 0, _ => exact h0
  | 1, _ => exact h1
  | 2, _ => exact h2
  | 3, _ => exact h3
theorem kd_reach : ∀ k, k < kd.length → PeepPlain.Reach kd k := by
  have h0 : PeepPlain.Reach kd 0 := .zero
  have h1 : PeepPlain.Reach kd 1 := .next h0 (by decide) (by decide) (by decide)
  intro k hk
  have hk : k < 2 := hk
  match k, hk with
  | 0, _ => exact h0
  | 1, _ => exact h1
theorem cst1 : O0.cst ⟨3, 0, 0, ⟨#[49]⟩, 0⟩ = some (.int 1) := by show cstOf (Ins.mk 3 0 0 ⟨#[49]⟩ 0) = some (Cst.int 1); unfold cstOf; rw [if_pos rfl, dig1]; rfl
theorem cst2 : O0.cst ⟨3, 0, 0, ⟨#[50]⟩, 0⟩ = some (.int 2) := by show cstOf (Ins.mk 3 0 0 ⟨#[50]⟩ 0) = some (Cst.int 2); unfold cstOf; rw [if_pos rfl, dig2]; rfl
theorem cst3 : O0.cst ⟨3, 0, 0, ⟨#[51]⟩, 0⟩ = some (.int 3) := by show cstOf (Ins.mk 3 0 0 ⟨#[51]⟩ 0) = some (Cst.int 3); unfold cstOf; rw [if_pos rfl, dig3]; rfl
theorem bi12 : O0.bi ⟨#[43]⟩ (.int 1) (.int 2) = some (.int 3) := by
  show biOf ⟨#[43]⟩ (.int 1) (.int 2) = some (.int 3)
  unfold biOf intsOf
  rw [ByteArray.toList_eq, if_neg (by decide), if_neg (by decide)]
  dsimp only
  rw [if_pos rfl, show wrap64 ((1 : Int) + 2) = 3 from by kernel_rfl]
theorem lay3 : O0.lay (.int 3) 0 = ⟨3, 0, 0, ⟨#[51]⟩, 0⟩ := by
  show layOf (.int 3) 0 = _
  unfold layOf
  dsimp only
  rw [show Lib.itoa 3 = [51] from by kernel_rfl]
theorem many_no {S : FSt} (h : folds O0 S = (S, false)) : foldMany O0 S = S := by
  rw [foldMany, dif_neg (by rw [h]; simp), h]
theorem many_yes {S S' : FSt} (h : folds O0 S = (S', true)) : foldMany O0 S = foldMany O0 S' := by
  rw [foldMany, dif_pos (by rw [h]), h]
def kf : List Ins := [⟨3, 0, 0, ⟨#[51]⟩, 0⟩, ⟨3, 0, 0, ⟨#[50]⟩, 0⟩, ⟨19, 0, 0, ⟨#[43]⟩, 0⟩, ⟨50, 0, 0, ⟨#[]⟩, 0⟩]
theorem fo_one (l : List Ins) (m o : List Bool) (k : Nat) : folds O0 ⟨l, m, o, [k]⟩ = (⟨l, m, o, [k]⟩, false) := rfl
theorem fo_1 (m o : List Bool) (hm : m.getD 1 true = false) : folds O0 ⟨kc, m, o, [1, 0]⟩ = (⟨kc, m, o, [1, 0]⟩, false) := by
  unfold folds
  dsimp only
  rw [hm, show kc.getD 0 default = ⟨3, 0, 0, ⟨#[49]⟩, 0⟩ from rfl, cst1]
  rfl
theorem fo_2 : folds O0 ⟨kc, [false, false, false, false], [false, false, false, false], [2, 1, 0]⟩ = (⟨kf, [false, false, false, false], [false, true, true, false], [0]⟩, true) := by
  unfold folds
  dsimp only
  rw [show kc.getD 1 default = ⟨3, 0, 0, ⟨#[50]⟩, 0⟩ from rfl, cst2, show kc.getD 0 default = ⟨3, 0, 0, ⟨#[49]⟩, 0⟩ from rfl]
  dsimp only
  rw [cst1, show (kc.getD 2 default).text = ⟨#[43]⟩ from rfl]
  dsimp only
  rw [bi12]
  dsimp only
  rw [lay3]
  rfl
theorem fo_3 (m o : List Bool) (hm : m.getD 3 true = false) : folds O0 ⟨kf, m, o, [3, 0]⟩ = (⟨kf, m, o, [3, 0]⟩, false) := by
  unfold folds
  dsimp only
  rw [hm, show kf.getD 0 default = ⟨3, 0, 0, ⟨#[51]⟩, 0⟩ from rfl, cst3]
  rfl
theorem fo_d (m o : List Bool) (hm : m.getD 1 true = false) : folds O0 ⟨kd, m, o, [1, 0]⟩ = (⟨kd, m, o, [1, 0]⟩, false) := by
  unfold folds
  dsimp only
  rw [hm, show kd.getD 0 default = ⟨3, 0, 0, ⟨#[51]⟩, 0⟩ from rfl, cst3]
  rfl
theorem kc_folded : folded O0 kc = ⟨kf, [false, false, false, false], [false, true, true, false], [3, 0]⟩ := by
  unfold folded
  rw [marks_none kc_no]
  show foldFrom O0 [0, 1, 2, 3] ⟨kc, [false, false, false, false], [false, false, false, false], []⟩ = _
  rw [foldFrom, many_no (fo_one _ _ _ _), foldFrom, many_no (fo_1 _ _ rfl), foldFrom, many_yes fo_2, many_no (fo_one _ _ _ _), foldFrom, many_no (fo_3 _ _ rfl), foldFrom]
theorem kd_folded : folded O0 kd = ⟨kd, [false, false], [false, false], [1, 0]⟩ := by
  unfold folded
  rw [marks_none kd_no]
  show foldFrom O0 [0, 1] ⟨kd, [false, false], [false, false], []⟩ = _
  rw [foldFrom, many_no (fo_one _ _ _ _), foldFrom, many_no (fo_d _ _ rfl), foldFrom]
theorem kc_without : PeepPlain.without kf [false, true, true, false] = kd := by rfl
/-- What the example becomes. -/
theorem kc_shorter : shorter o0_fair kc = kd := by
  rw [shorter_two (threads_none kc_no) (idle_none kc_no kc_reach) (by rw [kc_folded]; exact ⟨1, by decide, rfl⟩), kc_folded]
  dsimp only
  rw [kc_without, shorter_end (threads_none kd_no) (idle_none kd_no kd_reach) (by
    rw [kd_folded]
    rintro ⟨k, hk, hi⟩
    have hk : k < 2 := hk
    match k, hk with
    | 0, _ => cases hi
    | 1, _ => cases hi), kd_folded]
/-- Its function. -/
def kFn (A : Option Addr) : Fn := ⟨⟨#[]⟩, 0, 1, none, [], 0, -1, A, kc, 4⟩
theorem kc_comes {k : Nat} {s : List Int} (h : PeepPlain.Comes E0 kc k s) : (k = 0 ∧ s = []) ∨ (k = 1 ∧ s = [118]) ∨ (k = 2 ∧ s = [118, 118]) ∨ (k = 3 ∧ s = [118]) := by
  induction h with
  | zero => exact .inl ⟨rfl, rfl⟩
  | next h0 h1 h2 h3 h4 ih =>
    rcases ih with ⟨rfl, rfl⟩ | ⟨rfl, rfl⟩ | ⟨rfl, rfl⟩ | ⟨rfl, rfl⟩
    · have := h2.symm.trans eff0
      injection this with this
      subst this
      exact .inr (.inl ⟨rfl, rfl⟩)
    · have := h2.symm.trans eff1
      injection this with this
      subst this
      exact .inr (.inr (.inl ⟨rfl, rfl⟩))
    · obtain ⟨r, e⟩ := eff2
      have := h2.symm.trans e
      injection this with this
      subst this
      exact .inr (.inr (.inr ⟨rfl, rfl⟩))
    · exact absurd rfl h4
  | toA h0 h1 h2 h3 ih => exact absurd h3 (no_jump kc_no)
theorem kc_fits : PeepPlain.Fits E0 kc where
  goes := fun k s hk h => by
    rcases kc_comes h with ⟨rfl, rfl⟩ | ⟨rfl, rfl⟩ | ⟨rfl, rfl⟩ | ⟨rfl, rfl⟩
    · exact ⟨_, eff0⟩
    · exact ⟨_, eff1⟩
    · obtain ⟨r, e⟩ := eff2
      exact ⟨_, e⟩
    · exact eff3
  one := fun k s u h1 h2 => by
    rcases kc_comes h1 with ⟨e, rfl⟩ | ⟨e, rfl⟩ | ⟨e, rfl⟩ | ⟨e, rfl⟩ <;> rcases kc_comes h2 with ⟨e2, rfl⟩ | ⟨e2, rfl⟩ | ⟨e2, rfl⟩ | ⟨e2, rfl⟩ <;> first | rfl | (exfalso; omega)
theorem word19 : (formOf 19).word.toList.isEmpty = false := word_ok (by kernel_rfl)
theorem word50 : (formOf 50).word.toList.isEmpty = false := word_ok (by kernel_rfl)
theorem says_1 : saysB ⟨3, 0, 0, ⟨#[49]⟩, 0⟩ = true := by
  unfold saysB
  dsimp only
  rw [show (formOf 3).text = 12 from rfl, if_pos rfl]
  unfold digitsB
  rw [dig1]
  rfl
theorem says_2 : saysB ⟨3, 0, 0, ⟨#[50]⟩, 0⟩ = true := by
  unfold saysB
  dsimp only
  rw [show (formOf 3).text = 12 from rfl, if_pos rfl]
  unfold digitsB
  rw [dig2]
  rfl
theorem says_3 : saysB ⟨19, 0, 0, ⟨#[43]⟩, 0⟩ = true := by kernel_rfl
theorem says_4 : saysB ⟨50, 0, 0, ⟨#[]⟩, 0⟩ = true := by kernel_rfl
theorem k_fine (A : Option Addr) (k : Nat) (hk : k < 4) : fineB [kFn A] 0 0 k = true := by
  match k, hk with
  | 0, _ =>
    show (!(formOf 3).word.toList.isEmpty && decide ((0 : Int) ≤ 0) && decide ((0 : Int) ≤ 60000) && numberedB [kFn A] 0 0 ⟨3, 0, 0, ⟨#[49]⟩, 0⟩ && saysB ⟨3, 0, 0, ⟨#[49]⟩, 0⟩ && (decide ((0 : Int) = 0) || leftB ⟨3, 0, 0, ⟨#[49]⟩, 0⟩) && !backB kc 0 ⟨3, 0, 0, ⟨#[49]⟩, 0⟩ && lastB kc 0 ⟨3, 0, 0, ⟨#[49]⟩, 0⟩) = true
    rw [word3, says_1]
    rfl
  | 1, _ =>
    show (!(formOf 3).word.toList.isEmpty && decide ((0 : Int) ≤ 0) && decide ((0 : Int) ≤ 60000) && numberedB [kFn A] 0 0 ⟨3, 0, 0, ⟨#[50]⟩, 0⟩ && saysB ⟨3, 0, 0, ⟨#[50]⟩, 0⟩ && (decide ((0 : Int) = 0) || leftB ⟨3, 0, 0, ⟨#[50]⟩, 0⟩) && !backB kc 1 ⟨3, 0, 0, ⟨#[50]⟩, 0⟩ && lastB kc 1 ⟨3, 0, 0, ⟨#[50]⟩, 0⟩) = true
    rw [word3, says_2]
    rfl
  | 2, _ =>
    show (!(formOf 19).word.toList.isEmpty && decide ((0 : Int) ≤ 0) && decide ((0 : Int) ≤ 60000) && numberedB [kFn A] 0 0 ⟨19, 0, 0, ⟨#[43]⟩, 0⟩ && saysB ⟨19, 0, 0, ⟨#[43]⟩, 0⟩ && (decide ((0 : Int) = 0) || leftB ⟨19, 0, 0, ⟨#[43]⟩, 0⟩) && !backB kc 2 ⟨19, 0, 0, ⟨#[43]⟩, 0⟩ && lastB kc 2 ⟨19, 0, 0, ⟨#[43]⟩, 0⟩) = true
    rw [word19, says_3]
    rfl
  | 3, _ =>
    show (!(formOf 50).word.toList.isEmpty && decide ((0 : Int) ≤ 0) && decide ((0 : Int) ≤ 60000) && numberedB [kFn A] 0 0 ⟨50, 0, 0, ⟨#[]⟩, 0⟩ && saysB ⟨50, 0, 0, ⟨#[]⟩, 0⟩ && (decide ((0 : Int) = 0) || leftB ⟨50, 0, 0, ⟨#[]⟩, 0⟩) && !backB kc 3 ⟨50, 0, 0, ⟨#[]⟩, 0⟩ && lastB kc 3 ⟨50, 0, 0, ⟨#[]⟩, 0⟩) = true
    rw [word50, says_4]
    rfl
theorem k_right (A : Option Addr) : RightP [kFn A] [] where
  many := rfl
  globals := rfl
  heads := fun i hi => by
    have e : i = 0 := by simpa using hi
    subst e
    show (paramsB (kFn A) && headZero (kFn A)) = true
    unfold headZero
    rw [← toList_none]
    rfl
  some_ := fun i hi => by
    have e : i = 0 := by simpa using hi
    subst e
    exact (by decide : (4 : Nat) ≠ 0)
  fine := fun i k hi hk => by
    have e : i = 0 := by simpa using hi
    subst e
    exact k_fine A k hk
  fits := fun i hi => by
    have e : i = 0 := by simpa using hi
    subst e
    exact kc_fits
theorem k_small (A : Option Addr) : Small [kFn A] [] where
  nf := (by decide : (1 : Nat) ≤ 2000000)
  all := by show sumTo _ 1 ≤ _; simp [sumTo, kFn, kc]
  ng := (by decide : (0 : Nat) ≤ 2000000)
  names := fun j => by
    show (([] : List ByteArray).getD j ByteArray.empty).size ≤ _
    rw [List.getD_nil]
    exact Nat.zero_le _
  each := fun f hf => by
    have e : f = kFn A := by simpa using hf
    subst e
    simp [kFn, ByteArray.size]
  text := fun f hf x hx => by
    have e : f = kFn A := by simpa using hf
    subst e
    have hx : x ∈ kc := hx
    simp [kc] at hx
    rcases hx with rfl | rfl | rfl | rfl <;> simp [ByteArray.size]
end Go.Proofs.YtmecmlpoallpcaaGreatDoor
