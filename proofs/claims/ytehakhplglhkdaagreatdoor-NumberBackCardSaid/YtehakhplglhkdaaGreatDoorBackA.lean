/- What NumberBack calls: ints shown and read, converted to floats and back. Conditions: as said; what strconv reads of the package's variables. -/
import Derived.Test.YtehakhplglhkdaaGreatDoorBackPlain
import Derived.Test.YtehakhplglhkdaaGreatDoorSmall
import Derived.Test.YtehakhplglhkdaaGreatDoorTextBin
import Derived.Test.YtehakhplglhkdaaGreatDoorUnaryA
namespace Go.Proofs.YtehakhplglhkdaaGreatDoor
set_option linter.unusedVariables false
open Go.RowKit

def sInt : ByteArray := ⟨#[105, 110, 116]⟩
def sFloat : ByteArray := ⟨#[102, 108, 111, 97, 116]⟩
theorem whole32 (n : Int) (w : World) : Calls Tryz.prog 32 #[.int .i64 n] w fun e w' => e = .returned (mk 2 sInt n 0 ⟨#[]⟩).val ∧ Below w.heap.size w w' := by
  unfold sInt
  go_enter Tryz.func32, Tryz.ntmps32
  go_wp2
  go_returns
  exact ⟨rfl, by go_grown⟩
set_option maxRecDepth 200000 in
set_option maxHeartbeats 2000000 in
theorem show_int (n : Nat) (w : World) (hn : n < 9223372036854775808) (htab : Lib.TabIs Tryz.prog w "internal/strconv.uint64pow10" .u64 Lib.pow10Tab) :
    Calls Tryz.prog 33 #[(mk 2 sInt n 0 ⟨#[]⟩).val] w fun e w' => e = .returned (.string ⟨(Lib.decDigits n).toArray⟩) ∧ Below w.heap.size w w' := by
  have HTAB := Lib.hid (Lib.tabBelow_of_tabIs htab)
  have HI := Lib.hid fun W (hW : Below w.heap.size w W) => Tryz.strconv_Itoa n (by omega) (by omega) W (HTAB.out W hW)
  rw [Lib.itoa_nonneg] at HI
  generalize (⟨(Lib.decDigits n).toArray⟩ : ByteArray) = s at *
  clear htab HTAB hn
  unfold mk sInt Dat.val
  go_enter Tryz.func33, Tryz.ntmps33
  go_wp2_with (first
    | (go_at_call 59; refine (HI.out _ (below1 w _)).mono ?_
       rintro en w2 ⟨rfl, k, os, hw⟩
       have hb := below_of_grow hw
       have R2 : Row w2 w.heap.size 28 [.int .i64 2, .string ⟨#[105, 110, 116]⟩, .int .i64 (n : Int), .int .u64 0, .string ⟨#[]⟩, .int .i64 0, .int .i64 0, .int .i64 0, .int .i64 0, .slice none 0 0, .slice none 0 0] := (Row.made w 28 _).below hb (by simp)
       have B2 : Hid (Below w.heap.size w w2) := below_more (below1 w _) hb (by simp)
       obtain ⟨c0, c1, c2, c3, c4, c5, c6, c7, c8, c9, c10, cf⟩ := row11 R2
       have lt := R2.lt
       clear hw hb HI R2))
  go_returns
  exact ⟨rfl, B2.out⟩
set_option maxRecDepth 200000 in
set_option maxHeartbeats 2000000 in
theorem digits_ok (s : ByteArray) (w : World) (hsz : s.size ≤ 9223372036854775806) (hall : ∀ (i : Nat) (h : i < s.size), 48 ≤ s[i].toNat ∧ s[i].toNat ≤ 57) (hne : 0 < s.size) (hhead : s.size = 1 ∨ s[0].toNat ≠ 48) :
    Calls Tryz.prog 55 #[.string s] w fun e w' => e = .returned (.bool true) ∧ w' = w := by
  have HA := Lib.hid hall
  have hz : (s.toList == []) = false := by
    rw [ByteArray.toList_eq]
    simp only [beq_eq_false_iff_ne, ne_eq]
    intro e
    have : s.data.toList.length = s.size := Array.length_toList
    rw [e] at this
    simp at this
    omega
  have h0 : (0 : Int) ≤ 0 ∧ (0 : Int) < (s.size : Int) := by omega
  clear hall
  go_enter Tryz.func55, Tryz.ntmps55
  go_wp2
  go_loopw [6] (fun v wr => ∃ k : Nat, v = .int .i64 k ∧ k ≤ s.size ∧ Hid (wr = w)) (fun v _ => s.size - (intOf v).toNat)
  case atStart => exact ⟨0, rfl, Nat.zero_le _, rfl⟩
  case round =>
    obtain ⟨k, rfl, hk, H⟩ := hrel
    obtain rfl := H.out
    clear H
    by_cases hlt : k < s.size
    · obtain ⟨l1, l2⟩ := HA.out k hlt
      have hi : (0 : Int) ≤ (k : Int) ∧ (k : Int) < (s.size : Int) := by omega
      have b1 : decide ((s[k].toNat : Int) < 48) = false := decide_eq_false (by omega)
      have b2 : decide ((57 : Int) < (s[k].toNat : Int)) = false := decide_eq_false (by omega)
      clear l1 l2
      go_wp2
      go_roundw
      case rel => exact ⟨k + 1, by go_num, by omega, trivial⟩
      case measure => simp [intOf]; omega
    · by_cases h2 : s.size = 1
      · have e1 : (s.size : Int) = 1 := by omega
        go_wp2
        go_ret
        exact ⟨rfl, rfl⟩
      · have h1 := hhead.resolve_left h2
        have b3 : ((s[0].toNat : Int) != 48) = true := by simp; omega
        have b4 : ((s.size : Int) == 1) = false := by simp; omega
        have b5 : ¬ (s.size : Int) = 1 := by omega
        clear h1 h2
        go_wp2
        go_ret
        exact ⟨by simp [b3], rfl⟩
end Go.Proofs.YtehakhplglhkdaaGreatDoor
