/- NumberConvert of any arguments. Conditions: the bits fit; the texts are short; the path is not long; what strconv reads of the package's variables. -/
import Derived.Test.YtehakhplglhkdaaGreatDoorConvLaw
import Derived.Test.YtehakhplglhkdaaGreatDoorUnaryTop
namespace Go.Proofs.YtehakhplglhkdaaGreatDoor
set_option linter.unusedVariables false
open Go.RowKit

/-- A type's name, of a kind and a type. -/
def nameK (k : Int) (t : ByteArray) : ByteArray := nameOf (mk k t 0 0 ⟨#[]⟩)
theorem name_eq (k : Int) (t s : ByteArray) (n f ro rf rl rc : Int) (pa ia : Option Addr) (pn pc iN ic : Nat) : nameOf (Dat.mk k t n f s ro rf rl rc pa pn pc ia iN ic) = nameK k t := by
  unfold nameK nameOf mk
  rfl

theorem numberConvert_any (k0 : Int) (u : ByteArray) (l : List Int) (k : Int) (t s : ByteArray) (n f ro rf rl rc : Int) (pa ia : Option Addr) (pc iN ic : Nat) (w : World) (hf : 0 ≤ f ∧ f < 18446744073709551616) (hs : u.size + t.size ≤ 281474976710600) (hG : Glob w) (hA : IntsAt w pa l) (hn : pa = none → pc = 0) (hl : l.length ≤ 17592186043904) :
    Calls Tryz.prog 5 #[.int .i64 k0, .string u, (Dat.mk k t n f s ro rf rl rc pa l.length pc ia iN ic).val] w fun e w' => e = .returned (.bool true) ∧ Below w.heap.size w w' := by
  have h0 : ([] : List Int).length ≤ 17592186043904 := by simp
  by_cases lo : k0 < 1
  · exact convLaw_fault k0 u l k t s n f ro rf rl rc pa ia pc iN ic (u ++ ⟨#[32]⟩ ++ nameK k t) w hG hA hl (fun g W _ => by have h := cv_no_lo u k0 k t s n f ro rf rl rc (some ⟨g, 0, none⟩) ia l.length (l.length + 2) iN ic W (decide_eq_true lo) hs; rw [name_eq] at h; exact h) (fun W _ => by have h := rcv_no_lo u k0 k t s n f ro rf rl rc pa ia l.length pc iN ic W (decide_eq_true lo) hs; rw [name_eq] at h; exact h)
  · have dlo : decide (k0 < 1) = false := decide_eq_false lo
    by_cases hi : (7 : Int) < k0
    · exact convLaw_fault k0 u l k t s n f ro rf rl rc pa ia pc iN ic (u ++ ⟨#[32]⟩ ++ nameK k t) w hG hA hl (fun g W _ => by have h := cv_no_hi u k0 k t s n f ro rf rl rc (some ⟨g, 0, none⟩) ia l.length (l.length + 2) iN ic W dlo (decide_eq_true hi) hs; rw [name_eq] at h; exact h) (fun W _ => by have h := rcv_no_hi u k0 k t s n f ro rf rl rc pa ia l.length pc iN ic W dlo (decide_eq_true hi) hs; rw [name_eq] at h; exact h)
    · have dhi : decide ((7 : Int) < k0) = false := decide_eq_false hi
      by_cases he : k0 = k
      · subst he
        by_cases e1 : k0 = 1
        · subst e1
          exact convLaw_ok 1 u l 1 t s n f ro rf rl rc pa ia pc iN ic 1 n 0 0 0 0 0 ⟨#[]⟩ [] h0 w hG hA hl (fun g W _ => cv_1 u t s n f ro rf rl rc (some ⟨g, 0, none⟩) ia l.length (l.length + 2) iN ic W) (fun W _ => rcv_1 u t s n f ro rf rl rc pa ia l.length pc iN ic W)
        · by_cases e2 : k0 = 2
          · subst e2
            exact convLaw_ok 2 u l 2 t s n f ro rf rl rc pa ia pc iN ic 2 n 0 0 0 0 0 ⟨#[]⟩ [] h0 w hG hA hl (fun g W _ => cv_2 u t s n f ro rf rl rc (some ⟨g, 0, none⟩) ia l.length (l.length + 2) iN ic W) (fun W _ => rcv_2 u t s n f ro rf rl rc pa ia l.length pc iN ic W)
          · by_cases e3 : k0 = 3
            · subst e3
              exact convLaw_ok 3 u l 3 t s n f ro rf rl rc pa ia pc iN ic 3 0 _ 0 0 0 0 ⟨#[]⟩ [] h0 w hG hA hl (fun g W _ => cv_3 u t s n f ro rf rl rc (some ⟨g, 0, none⟩) ia l.length (l.length + 2) iN ic W) (fun W _ => rcv_3 u t s n f ro rf rl rc pa ia l.length pc iN ic W hf)
            · by_cases e4 : k0 = 4
              · subst e4
                exact convLaw_ok 4 u l 4 t s n f ro rf rl rc pa ia pc iN ic 4 0 0 0 0 0 0 s [] h0 w hG hA hl (fun g W _ => cv_4 u t s n f ro rf rl rc (some ⟨g, 0, none⟩) ia l.length (l.length + 2) iN ic W) (fun W _ => rcv_4 u t s n f ro rf rl rc pa ia l.length pc iN ic W)
              · exact convLaw_ok k0 u l k0 t s n f ro rf rl rc pa ia pc iN ic k0 0 0 ro rf rl rc ⟨#[]⟩ l hl w hG hA hl (fun g W h => cv_p u l k0 t s n f ro rf rl rc _ ia _ iN ic W dlo dhi (ne_int e1) (ne_int e2) (ne_int e3) (ne_int e4) h (fun e => by cases e) hl) (fun W h => rcv_p u l k0 t s n f ro rf rl rc pa ia pc iN ic W dlo dhi (ne_int e1) (ne_int e2) (ne_int e3) (ne_int e4) h hn hl)
      · by_cases e2 : k0 = 2
        · subst e2
          by_cases k3 : k = 3
          · subst k3
            exact convLaw_ok 2 u l 3 t s n f ro rf rl rc pa ia pc iN ic 2 _ 0 0 0 0 0 ⟨#[]⟩ [] h0 w hG hA hl (fun g W _ => cv_fi u t s n f ro rf rl rc (some ⟨g, 0, none⟩) ia l.length (l.length + 2) iN ic W hf) (fun W _ => rcv_fi u t s n f ro rf rl rc pa ia l.length pc iN ic W hf)
          · exact convLaw_fault 2 u l k t s n f ro rf rl rc pa ia pc iN ic (u ++ ⟨#[32]⟩ ++ nameK k t) w hG hA hl (fun g W _ => by have h := cv_no_two u k t s n f ro rf rl rc (some ⟨g, 0, none⟩) ia l.length (l.length + 2) iN ic W (ne_int he) (ne_int k3) hs; rw [name_eq] at h; exact h) (fun W _ => by have h := rcv_no_two u k t s n f ro rf rl rc pa ia l.length pc iN ic W (ne_int he) (ne_int k3) hs; rw [name_eq] at h; exact h)
        · by_cases e3 : k0 = 3
          · subst e3
            by_cases k2 : k = 2
            · subst k2
              exact convLaw_ok 3 u l 2 t s n f ro rf rl rc pa ia pc iN ic 3 0 _ 0 0 0 0 ⟨#[]⟩ [] h0 w hG hA hl (fun g W _ => cv_if u t s n f ro rf rl rc (some ⟨g, 0, none⟩) ia l.length (l.length + 2) iN ic W) (fun W _ => rcv_if u t s n f ro rf rl rc pa ia l.length pc iN ic W)
            · exact convLaw_fault 3 u l k t s n f ro rf rl rc pa ia pc iN ic (u ++ ⟨#[32]⟩ ++ nameK k t) w hG hA hl (fun g W _ => by have h := cv_no_three u k t s n f ro rf rl rc (some ⟨g, 0, none⟩) ia l.length (l.length + 2) iN ic W (ne_int he) (ne_int k2) hs; rw [name_eq] at h; exact h) (fun W _ => by have h := rcv_no_three u k t s n f ro rf rl rc pa ia l.length pc iN ic W (ne_int he) (ne_int k2) hs; rw [name_eq] at h; exact h)
          · exact convLaw_fault k0 u l k t s n f ro rf rl rc pa ia pc iN ic (u ++ ⟨#[32]⟩ ++ nameK k t) w hG hA hl (fun g W _ => by have h := cv_no_other u k0 k t s n f ro rf rl rc (some ⟨g, 0, none⟩) ia l.length (l.length + 2) iN ic W dlo dhi (ne_int he) (ne_int e2) (ne_int e3) hs; rw [name_eq] at h; exact h) (fun W _ => by have h := rcv_no_other u k0 k t s n f ro rf rl rc pa ia l.length pc iN ic W dlo dhi (ne_int he) (ne_int e2) (ne_int e3) hs; rw [name_eq] at h; exact h)
end Go.Proofs.YtehakhplglhkdaaGreatDoor
