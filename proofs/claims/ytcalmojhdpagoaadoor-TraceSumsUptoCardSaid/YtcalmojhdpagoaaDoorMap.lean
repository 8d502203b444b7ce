/- The map of lists by names, as the model has it: what a look-up, a new entry, a store do to it. -/
import Derived.Test.YtcalmojhdpagoaaDoorPlain
import Derived.MapKept
namespace Go.Proofs.YtcalmojhdpagoaaDoor
open Go.RowKit

def keyV (n : Key) : Value := .agg #[.int .i64 n.1, .string n.2]
/-- The entries of a map into which ks came, in their order, and which holds vs at them. -/
def ents : Nat → List Key → List Value → List MapEntry
  | b, k :: ks, v :: vs => ⟨keyV k, v, b⟩ :: ents (b + 1) ks vs
  | _, _, _ => []
def idxK : List Key → Key → Option Nat
  | [], _ => none
  | k :: ks, n => if k = n then some 0 else (idxK ks n).map (· + 1)

theorem ents_length : ∀ (b : Nat) (ks : List Key) (vs : List Value), ks.length = vs.length → (ents b ks vs).length = ks.length
  | b, [], _, _ => by simp [ents]
  | b, k :: ks, [], h => by simp at h
  | b, k :: ks, v :: vs, h => by simp only [ents, List.length_cons]; rw [ents_length (b + 1) ks vs (by simpa using h)]
theorem ents_at : ∀ (b : Nat) (ks : List Key) (vs : List Value) (j : Nat) (k : Key) (v : Value), ks[j]? = some k → vs[j]? = some v → (ents b ks vs)[j]? = some ⟨keyV k, v, b + j⟩
  | b, [], vs, j, k, v, h1, h2 => by simp at h1
  | b, k' :: ks, [], j, k, v, h1, h2 => by simp at h2
  | b, k' :: ks, v' :: vs, 0, k, v, h1, h2 => by simp at h1 h2; subst h1 h2; rfl
  | b, k' :: ks, v' :: vs, j + 1, k, v, h1, h2 => by
    simp only [ents, List.getElem?_cons_succ]
    rw [ents_at (b + 1) ks vs j k v (by simpa using h1) (by simpa using h2)]
    simp; omega
theorem ents_snoc : ∀ (b : Nat) (ks : List Key) (vs : List Value) (k : Key) (v : Value), ks.length = vs.length → ents b (ks ++ [k]) (vs ++ [v]) = ents b ks vs ++ [⟨keyV k, v, b + ks.length⟩]
  | b, [], [], k, v, h => by simp [ents]
  | b, [], _ :: _, k, v, h => by simp at h
  | b, k' :: ks, [], k, v, h => by simp at h
  | b, k' :: ks, v' :: vs, k, v, h => by
    simp only [List.cons_append, ents, List.length_cons]
    rw [ents_snoc (b + 1) ks vs k v (by simpa using h)]
    simp; omega
theorem ents_set : ∀ (b : Nat) (ks : List Key) (vs : List Value) (j : Nat) (v : Value), ents b ks (vs.set j v) = (ents b ks vs).modify j fun e => { e with val := v }
  | b, [], vs, j, v => by cases j <;> simp [ents]
  | b, k :: ks, [], j, v => by cases j <;> simp [ents]
  | b, k :: ks, v' :: vs, 0, v => by simp [ents]
  | b, k :: ks, v' :: vs, j + 1, v => by
    simp only [List.set_cons_succ, ents, List.modify_succ_cons]
    rw [ents_set (b + 1) ks vs j v]

theorem idxK_some : ∀ {ks : List Key} {n : Key} {j : Nat}, idxK ks n = some j → ks[j]? = some n
  | [], n, j, h => by simp [idxK] at h
  | k :: ks, n, j, h => by
    simp only [idxK] at h
    split at h
    · rename_i hk; injection h with h; subst h; simp [hk]
    · cases hi : idxK ks n with
      | none => simp [hi] at h
      | some i => simp [hi] at h; subst h; simpa using idxK_some hi

@[go_sem ↓] theorem eq54 (a : Int) (s : ByteArray) (a' : Int) (s' : ByteArray) (w : World) (d : Nat) :
    (Op.equalIn (d + 2) 54 (.agg #[.int .i64 a, .string s]) (.agg #[.int .i64 a', .string s'])).run Tryd.prog w = .ok (decide ((a, s) = (a', s'))) w := by
  have hS : Tryd.prog.underlying 54 = some (.struct (Tryd.prog.fieldsOf 54)) := by kernel_rfl
  rw [show (d + 2 : Nat) = (d + 1) + 1 from rfl, run_equalIn_agg w (d + 1) 54 _ _ hS Tryd.stoodInHeld54]
  simp only [Program.fieldsOf, Tryd.underlying54]
  simp [go_sem]
  by_cases h1 : a = a' <;> by_cases h3 : s.toList = s'.toList
  · simp [h1, bytes_ext h3]
  · have : s ≠ s' := fun e => h3 (by rw [e])
    simp [h1, this, h3]
  · simp [h1]
  · simp [h1]

theorem equal54 (n m : Key) (w : World) : (Op.equal 54 (keyV n) (keyV m)).run Tryd.prog w = .ok (decide (n = m)) w := by
  unfold Op.equal keyV
  exact eq54 n.1 n.2 m.1 m.2 w 9998

theorem find54 (n : Key) (w : World) : ∀ (b i : Nat) (ks : List Key) (vs : List Value), ks.length = vs.length →
    (Instr.findAsking 54 (keyV n) (ents b ks vs) i).run Tryd.prog w = .ok ((idxK ks n).map fun j => (i + j, vs.getD j undef)) w
  | b, i, [], [], h => by simp [ents, Instr.findAsking, idxK]
  | b, i, [], _ :: _, h => by simp at h
  | b, i, k :: ks, [], h => by simp at h
  | b, i, k :: ks, v :: vs, h => by
    simp only [ents, Instr.findAsking, Sem.run_bind, equal54, Result.andThen_ok]
    by_cases hk : n = k
    · subst hk
      simp [idxK]
    · rw [show decide (n = k) = false by simpa using hk]
      simp only [Bool.false_eq_true, if_false]
      rw [find54 n w (b + 1) (i + 1) ks vs (by simpa using h)]
      simp only [idxK, if_neg (Ne.symm hk)]
      cases idxK ks n with
      | none => rfl
      | some j => simp; omega

theorem findKey54 (n : Key) (w : World) (ks : List Key) (vs : List Value) (h : ks.length = vs.length) :
    (Instr.findKey 54 (keyV n) (ents 0 ks vs)).run Tryd.prog w = .ok ((idxK ks n).map fun j => (j, vs.getD j undef)) w := by
  unfold Instr.findKey
  simp only [Sem.run_bind, run_underlying Tryd.underlying54, Result.andThen_ok]
  cases ks with
  | nil =>
    cases vs with
    | nil => simp [ents, Instr.findNow, idxK]
    | cons _ _ => simp at h
  | cons k ks =>
    cases vs with
    | nil => simp at h
    | cons v vs =>
      have : Instr.findNow (TypeDesc.struct #[{ name := "at", type := 3, offset := 0, embedded := false, tag := "", pkgPath := "guise/trace", byteOffset := 0 }, { name := "text", type := 9, offset := 1, embedded := false, tag := "", pkgPath := "guise/trace", byteOffset := 8 }]) (keyV n) (ents 0 (k :: ks) (v :: vs)) 0 = none := by
        simp [ents, Instr.findNow, Instr.sameNow]
      simp only [this]
      have := find54 n w 0 0 (k :: ks) (v :: vs) h
      simpa using this

theorem check_flat {P : Program} (em : Bool) (d : Nat) (t : TypeId) (v : Value) (w : World) (h : P.underlying t = some (.int .i64) ∨ P.underlying t = some .string) : (Instr.checkKey em (d + 1) t v).run P w = .ok () w := by
  unfold Instr.checkKey
  rcases h with h | h <;> simp [Sem.run_bind, run_underlying h]

theorem check54' (em : Bool) (d : Nat) (n : Key) (w : World) : (Instr.checkKey em (d + 2) 54 (keyV n)).run Tryd.prog w = .ok () w := by
  have c3 : ∀ v w, (Instr.checkKey em (d + 1) 3 v).run Tryd.prog w = .ok () w := fun v w => check_flat em d 3 v w (.inl Tryd.underlying3)
  have c9 : ∀ v w, (Instr.checkKey em (d + 1) 9 v).run Tryd.prog w = .ok () w := fun v w => check_flat em d 9 v w (.inr Tryd.underlying9)
  rw [Instr.checkKey]
  simp only [Sem.run_bind, run_underlying Tryd.underlying54, Result.andThen_ok, keyV]
  rw [← Array.forIn_toList]
  simp [go_sem, c3, c9]
theorem check54 (em : Bool) (n : Key) (w : World) : (Instr.checkKey em 10000 54 (keyV n)).run Tryd.prog w = .ok () w := check54' em 9998 n w

theorem bytes_beq (s : ByteArray) : (s == s) = true := by rw [beq_toListBytes]; simp
theorem stays54 (n : Key) (w : World) : (Instr.keyThatStays (keyV n) (keyV n)).run Tryd.prog w = .ok (keyV n) w := by
  have : Instr.sameBits 10000 (keyV n) (keyV n) = true := by
    rw [show (10000 : Nat) = 9998 + 1 + 1 from rfl]
    simp [keyV, Instr.sameBits, bytes_beq]
  simp [Instr.keyThatStays, this]

/-- Block gm is a map into which ks came, and which holds vs at them. -/
def HasMap (w : World) (gm : Nat) (ks : List Key) (vs : List Value) : Prop := ks.length = vs.length ∧ w.heap[gm]? = some (.map (ents 0 ks vs).toArray ks.length)
def setMap (w : World) (gm : Nat) (ks : List Key) (vs : List Value) : World := { w with heap := w.heap.setIfInBounds gm (.map (ents 0 ks vs).toArray ks.length) }

section
variable {w w' : World} {gm : Nat} {ks : List Key} {vs : List Value}
theorem HasMap.lt (h : HasMap w gm ks vs) : gm < w.heap.size := (Array.getElem?_eq_some_iff.1 h.2).1
theorem HasMap.kept (h : HasMap w gm ks vs) (hk : w'.heap[gm]? = w.heap[gm]?) : HasMap w' gm ks vs := ⟨h.1, hk.trans h.2⟩
theorem HasMap.set (h : HasMap w gm ks vs) {ks' : List Key} {vs' : List Value} (hl : ks'.length = vs'.length) : HasMap (setMap w gm ks' vs') gm ks' vs' := ⟨hl, by
  unfold setMap; simp [h.lt]⟩
theorem setMap_size (w : World) (gm : Nat) (ks : List Key) (vs : List Value) : (setMap w gm ks vs).heap.size = w.heap.size := by simp [setMap]
theorem setMap_far (w : World) (gm : Nat) (ks : List Key) (vs : List Value) (k : Nat) (h : k ≠ gm) : (setMap w gm ks vs).heap[k]? = w.heap[k]? := by
  unfold setMap
  exact Array.getElem?_setIfInBounds_ne (Ne.symm h)
theorem setMap_self (h : HasMap w gm ks vs) : setMap w gm ks vs = w := by
  cases w with
  | mk heap tape drawn os output =>
    unfold setMap
    congr 1
    apply Array.ext_getElem?
    intro i
    by_cases hi : gm = i
    · subst hi
      have := h.2
      simp only at this
      have hl := h.lt
      simp only at hl
      rw [Array.getElem?_setIfInBounds_self_of_lt hl, this]
    · simp [hi]
theorem setMap_alloc (w : World) (gm : Nat) (ks : List Key) (vs : List Value) (o : Obj) (h : gm < w.heap.size) : setMap (w.alloc o) gm ks vs = (setMap w gm ks vs).alloc o := by
  unfold setMap World.alloc
  congr 1
  apply Array.ext_getElem?
  intro i
  simp only [Array.getElem?_setIfInBounds, Array.getElem?_push, Array.size_push, Array.size_setIfInBounds]
  by_cases hi : gm = i
  · subst hi
    simp [h, Nat.lt_succ_of_lt h, Nat.ne_of_lt h]
  · simp [hi]
theorem setMap_drew (w : World) (gm : Nat) (ks : List Key) (vs : List Value) : setMap w.drew gm ks vs = (setMap w gm ks vs).drew := rfl
theorem below_setMap {B : Nat} {w0 : World} (h : Below B w0 w) (hB : B ≤ gm) (ks : List Key) (vs : List Value) : Below B w0 (setMap w gm ks vs) :=
  h.trans ⟨rfl, rfl, rfl, by rw [setMap_size]; exact Nat.le_refl _, fun k hk => setMap_far w gm ks vs k (by omega)⟩

theorem getMap (h : HasMap w gm ks vs) : (getObj gm).run Tryd.prog w = .ok (.map (ents 0 ks vs).toArray ks.length) w := MapKept.run_getObj_map h.2
theorem putMap (h : HasMap w gm ks vs) (ks' : List Key) (vs' : List Value) : (setObj gm (.map (ents 0 ks' vs').toArray ks'.length)).run Tryd.prog w = .ok () (setMap w gm ks' vs') := MapKept.run_setObj_map _ h.2

theorem zero27 (w : World) : (zeroValue 27).run Tryd.prog w = .ok (.slice none 0 0) w := by kernel_rfl

theorem look_ (h : HasMap w gm ks vs) (a : Int) (s : ByteArray) :
    (Instr.lookup 36 (.map (some gm)) (.agg #[.int .i64 a, .string s]) false).run Tryd.prog w = .ok (match idxK ks (a, s) with | some j => vs.getD j undef | none => .slice none 0 0) w := by
  have hc := fun em => check54 em (a, s) w
  have hf := findKey54 (a, s) w ks vs h.1
  simp only [keyV] at hc hf
  simp only [Instr.lookup, Sem.run_bind, run_underlying Tryd.underlying36, Result.andThen_ok, getMap h, Sem.run_pure, hc, hf]
  cases idxK ks (a, s) with
  | none => simp
  | some j => simp

theorem entry_old (h : HasMap w gm ks vs) (a : Int) (s : ByteArray) {j : Nat} (hj : idxK ks (a, s) = some j) :
    (Instr.mapEntry 36 (.map (some gm)) (.agg #[.int .i64 a, .string s])).run Tryd.prog w = .ok (.tuple #[vs.getD j undef, .int .i64 j]) w := by
  have hc := fun em => check54 em (a, s) w
  have hf := findKey54 (a, s) w ks vs h.1
  have hs := stays54 (a, s) w
  simp only [keyV] at hc hf hs
  have hkj := idxK_some hj
  have hjl : j < ks.length := (List.getElem?_eq_some_iff.1 hkj).1
  have hvj : vs[j]? = some (vs.getD j undef) := by
    have : j < vs.length := by have := h.1; omega
    rw [List.getD, List.getElem?_eq_getElem this]; rfl
  have he := ents_at 0 ks vs j (a, s) _ hkj hvj
  rw [Nat.zero_add] at he
  have hsame : (ents 0 ks vs).modify j (fun e => { e with key := keyV (a, s) }) = ents 0 ks vs := by
    apply List.ext_getElem?
    intro i
    by_cases hi : j = i
    · subst hi; rw [List.getElem?_modify_eq, he]; rfl
    · rw [List.getElem?_modify_ne _ _ hi]
  simp only [keyV] at hsame he
  simp only [Instr.mapEntry, Sem.run_bind, run_underlying Tryd.underlying36, Result.andThen_ok, getMap h, Sem.run_pure, hc, hf, hj, Option.map_some, List.getElem?_toArray, he, Option.getD_some, hs]
  rw [List.modify_toArray, hsame, putMap h, setMap_self h]
  simp [goInt]

theorem entry_new (h : HasMap w gm ks vs) (a : Int) (s : ByteArray) (hj : idxK ks (a, s) = none) :
    (Instr.mapEntry 36 (.map (some gm)) (.agg #[.int .i64 a, .string s])).run Tryd.prog w = .ok (.tuple #[.slice none 0 0, .int .i64 ks.length]) (setMap w gm (ks ++ [(a, s)]) (vs ++ [.slice none 0 0])) := by
  have hc := fun em => check54 em (a, s) w
  have hf := findKey54 (a, s) w ks vs h.1
  have hp := putMap h (ks ++ [(a, s)]) (vs ++ [.slice none 0 0])
  rw [ents_snoc _ _ _ _ _ h.1, Nat.zero_add] at hp
  simp only [keyV, List.length_append, List.length_singleton] at hc hf hp
  simp only [Instr.mapEntry, Sem.run_bind, run_underlying Tryd.underlying36, Result.andThen_ok, getMap h, Sem.run_pure, hc, hf, hj, Option.map_none, zero27, List.push_toArray, hp, goInt]

theorem find_born : ∀ (b : Nat) (ks : List Key) (vs : List Value) (j : Nat), ks.length = vs.length → j < ks.length → (ents b ks vs).findIdx? (fun e => (e.born : Int) == ((b + j : Nat) : Int)) = some j
  | b, [], vs, j, h, hj => by simp at hj
  | b, k :: ks, [], j, h, hj => by simp at h
  | b, k :: ks, v :: vs, 0, h, hj => by simp [ents, List.findIdx?_cons]
  | b, k :: ks, v :: vs, j + 1, h, hj => by
    have ih := find_born (b + 1) ks vs j (by simpa using h) (by simpa using hj)
    simp only [ents, List.findIdx?_cons]
    rw [show ((b : Int) == ((b + (j + 1) : Nat) : Int)) = false by simp; omega]
    rw [show b + 1 + j = b + (j + 1) by omega] at ih
    simp only [Bool.false_eq_true, if_false, ih]
    rfl

theorem entry_store (h : HasMap w gm ks vs) {j : Nat} (hj : j < ks.length) (v : Value) :
    (Instr.entryStore 36 (.map (some gm)) (.int .i64 j) v).run Tryd.prog w = .ok () (setMap w gm ks (vs.set j v)) := by
  have hb := find_born 0 ks vs j h.1 hj
  rw [Nat.zero_add] at hb
  have hp := putMap h ks (vs.set j v)
  rw [ents_set] at hp
  simp only [Instr.entryStore, Sem.run_bind, Result.andThen_ok, getMap h, asInt, asIntOf, Sem.run_pure, List.findIdx?_toArray, hb]
  rw [List.modify_toArray, hp]

theorem update_old (h : HasMap w gm ks vs) (a : Int) (s : ByteArray) {j : Nat} (hj : idxK ks (a, s) = some j) (v : Value) :
    (Instr.mapUpdate 36 (.map (some gm)) (.agg #[.int .i64 a, .string s]) v).run Tryd.prog w = .ok () (setMap w gm ks (vs.set j v)) := by
  have hc := fun em => check54 em (a, s) w
  have hf := findKey54 (a, s) w ks vs h.1
  have hs := stays54 (a, s) w
  simp only [keyV] at hc hf hs
  have hkj := idxK_some hj
  have hjl : j < ks.length := (List.getElem?_eq_some_iff.1 hkj).1
  have hvj : vs[j]? = some (vs.getD j undef) := by
    have : j < vs.length := by have := h.1; omega
    rw [List.getD, List.getElem?_eq_getElem this]; rfl
  have he := ents_at 0 ks vs j (a, s) _ hkj hvj
  rw [Nat.zero_add] at he
  have hsame : (ents 0 ks vs).modify j (fun e => { e with key := keyV (a, s), val := v }) = ents 0 ks (vs.set j v) := by
    rw [ents_set]
    apply List.ext_getElem?
    intro i
    by_cases hi : j = i
    · subst hi; rw [List.getElem?_modify_eq, List.getElem?_modify_eq, he]; rfl
    · rw [List.getElem?_modify_ne _ _ hi, List.getElem?_modify_ne _ _ hi]
  simp only [keyV] at hsame he
  simp only [Instr.mapUpdate, Sem.run_bind, run_underlying Tryd.underlying36, Result.andThen_ok, getMap h, hc, hf, hj, Option.map_some, List.getElem?_toArray, he, Option.getD_some, hs]
  rw [List.modify_toArray, hsame, putMap h]

theorem update_new (h : HasMap w gm ks vs) (a : Int) (s : ByteArray) (hj : idxK ks (a, s) = none) (v : Value) :
    (Instr.mapUpdate 36 (.map (some gm)) (.agg #[.int .i64 a, .string s]) v).run Tryd.prog w = .ok () (setMap w gm (ks ++ [(a, s)]) (vs ++ [v])) := by
  have hc := fun em => check54 em (a, s) w
  have hf := findKey54 (a, s) w ks vs h.1
  have hp := putMap h (ks ++ [(a, s)]) (vs ++ [v])
  rw [ents_snoc _ _ _ _ _ h.1, Nat.zero_add] at hp
  simp only [keyV, List.length_append, List.length_singleton] at hc hf hp
  simp only [Instr.mapUpdate, Sem.run_bind, run_underlying Tryd.underlying36, Result.andThen_ok, getMap h, hc, hf, hj, Option.map_none, List.push_toArray, hp]
end
end Go.Proofs.YtcalmojhdpagoaaDoor
