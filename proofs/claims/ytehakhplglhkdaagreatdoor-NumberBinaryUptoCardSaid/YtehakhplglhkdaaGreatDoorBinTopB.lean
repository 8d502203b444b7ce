/- NumberBinary of two ints, floats, texts of one type. Conditions: the arguments fit their kinds; the texts are short; what strconv reads of the package's variables. -/
import Derived.Test.YtehakhplglhkdaaGreatDoorBinTopA
import Derived.Test.YtehakhplglhkdaaGreatDoorIntsE
namespace Go.Proofs.YtehakhplglhkdaaGreatDoor
set_option linter.unusedVariables false
open Go.RowKit

set_option maxHeartbeats 1000000 in
theorem bin_ints (op : ByteArray) (t s : ByteArray) (n f ro rf rl rc : Int) (pa ia : Option Addr) (pn pc iN ic : Nat) (s2 : ByteArray) (n2 f2 ro2 rf2 rl2 rc2 : Int) (pa2 ia2 : Option Addr) (pn2 pc2 iN2 ic2 : Nat) (w : World) (hG : Glob w) (hTB : ∀ W, Below w.heap.size w W → Lib.TabIs Tryz.prog W "internal/strconv.uint64pow10" .u64 Lib.pow10Tab) (hn : I64 n) (hn2 : I64 n2) (hs : op.size + t.size + t.size ≤ 3000000) :
    Calls Tryz.prog 4 #[.string op, (Dat.mk 2 t n f s ro rf rl rc pa pn pc ia iN ic).val, (Dat.mk 2 t n2 f2 s2 ro2 rf2 rl2 rc2 pa2 pn2 pc2 ia2 iN2 ic2).val] w fun e w' => e = .returned (.bool true) ∧ Below w.heap.size w w' := by
  by_cases h0 : op = ⟨#[43]⟩
  · subst h0
    exact int_law ⟨#[43]⟩ t s n f ro rf rl rc pa ia pn pc iN ic s2 n2 f2 ro2 rf2 rl2 rc2 pa2 ia2 pn2 pc2 iN2 ic2 _ _ _ false (wrap64 (n + n2)) w hG (fun w => i_add t s n f ro rf rl rc pa ia pn pc iN ic s2 n2 f2 ro2 rf2 rl2 rc2 pa2 ia2 pn2 pc2 iN2 ic2 w) (fun w => ro_int t s n f ro rf rl rc pa ia pn pc iN ic s2 n2 f2 ro2 rf2 rl2 rc2 pa2 ia2 pn2 pc2 iN2 ic2 w) (fun w => wh_no ⟨#[43]⟩ _ _ _ w (by rw [ByteArray.toList_eq]; rfl) (by rw [ByteArray.toList_eq]; rfl) (by rw [ByteArray.toList_eq]; rfl) (by rw [ByteArray.toList_eq]; rfl)) (fun w => r_add n n2 w)
  · skip
    by_cases h1 : op = ⟨#[45]⟩
    · subst h1
      exact int_law ⟨#[45]⟩ t s n f ro rf rl rc pa ia pn pc iN ic s2 n2 f2 ro2 rf2 rl2 rc2 pa2 ia2 pn2 pc2 iN2 ic2 _ _ _ false (wrap64 (n - n2)) w hG (fun w => i_sub t s n f ro rf rl rc pa ia pn pc iN ic s2 n2 f2 ro2 rf2 rl2 rc2 pa2 ia2 pn2 pc2 iN2 ic2 w) (fun w => ro_int t s n f ro rf rl rc pa ia pn pc iN ic s2 n2 f2 ro2 rf2 rl2 rc2 pa2 ia2 pn2 pc2 iN2 ic2 w) (fun w => wh_no ⟨#[45]⟩ _ _ _ w (by rw [ByteArray.toList_eq]; rfl) (by rw [ByteArray.toList_eq]; rfl) (by rw [ByteArray.toList_eq]; rfl) (by rw [ByteArray.toList_eq]; rfl)) (fun w => r_sub n n2 w)
    · skip
      by_cases h2 : op = ⟨#[42]⟩
      · subst h2
        exact int_law ⟨#[42]⟩ t s n f ro rf rl rc pa ia pn pc iN ic s2 n2 f2 ro2 rf2 rl2 rc2 pa2 ia2 pn2 pc2 iN2 ic2 _ _ _ false (wrap64 (n * n2)) w hG (fun w => i_mul t s n f ro rf rl rc pa ia pn pc iN ic s2 n2 f2 ro2 rf2 rl2 rc2 pa2 ia2 pn2 pc2 iN2 ic2 w) (fun w => ro_int t s n f ro rf rl rc pa ia pn pc iN ic s2 n2 f2 ro2 rf2 rl2 rc2 pa2 ia2 pn2 pc2 iN2 ic2 w) (fun w => wh_no ⟨#[42]⟩ _ _ _ w (by rw [ByteArray.toList_eq]; rfl) (by rw [ByteArray.toList_eq]; rfl) (by rw [ByteArray.toList_eq]; rfl) (by rw [ByteArray.toList_eq]; rfl)) (fun w => r_mul n n2 w)
      · skip
        by_cases h3 : op = ⟨#[38]⟩
        · subst h3
          exact int_law ⟨#[38]⟩ t s n f ro rf rl rc pa ia pn pc iN ic s2 n2 f2 ro2 rf2 rl2 rc2 pa2 ia2 pn2 pc2 iN2 ic2 _ _ _ false (bits BinOp.and .i64 n n2) w hG (fun w => i_and t s n f ro rf rl rc pa ia pn pc iN ic s2 n2 f2 ro2 rf2 rl2 rc2 pa2 ia2 pn2 pc2 iN2 ic2 w) (fun w => ro_int t s n f ro rf rl rc pa ia pn pc iN ic s2 n2 f2 ro2 rf2 rl2 rc2 pa2 ia2 pn2 pc2 iN2 ic2 w) (fun w => wh_no ⟨#[38]⟩ _ _ _ w (by rw [ByteArray.toList_eq]; rfl) (by rw [ByteArray.toList_eq]; rfl) (by rw [ByteArray.toList_eq]; rfl) (by rw [ByteArray.toList_eq]; rfl)) (fun w => r_and n n2 w)
        · skip
          by_cases h4 : op = ⟨#[124]⟩
          · subst h4
            exact int_law ⟨#[124]⟩ t s n f ro rf rl rc pa ia pn pc iN ic s2 n2 f2 ro2 rf2 rl2 rc2 pa2 ia2 pn2 pc2 iN2 ic2 _ _ _ false (bits BinOp.or .i64 n n2) w hG (fun w => i_or t s n f ro rf rl rc pa ia pn pc iN ic s2 n2 f2 ro2 rf2 rl2 rc2 pa2 ia2 pn2 pc2 iN2 ic2 w) (fun w => ro_int t s n f ro rf rl rc pa ia pn pc iN ic s2 n2 f2 ro2 rf2 rl2 rc2 pa2 ia2 pn2 pc2 iN2 ic2 w) (fun w => wh_no ⟨#[124]⟩ _ _ _ w (by rw [ByteArray.toList_eq]; rfl) (by rw [ByteArray.toList_eq]; rfl) (by rw [ByteArray.toList_eq]; rfl) (by rw [ByteArray.toList_eq]; rfl)) (fun w => r_or n n2 w)
          · skip
            by_cases h5 : op = ⟨#[94]⟩
            · subst h5
              exact int_law ⟨#[94]⟩ t s n f ro rf rl rc pa ia pn pc iN ic s2 n2 f2 ro2 rf2 rl2 rc2 pa2 ia2 pn2 pc2 iN2 ic2 _ _ _ false (bits BinOp.xor .i64 n n2) w hG (fun w => i_xor t s n f ro rf rl rc pa ia pn pc iN ic s2 n2 f2 ro2 rf2 rl2 rc2 pa2 ia2 pn2 pc2 iN2 ic2 w) (fun w => ro_int t s n f ro rf rl rc pa ia pn pc iN ic s2 n2 f2 ro2 rf2 rl2 rc2 pa2 ia2 pn2 pc2 iN2 ic2 w) (fun w => wh_no ⟨#[94]⟩ _ _ _ w (by rw [ByteArray.toList_eq]; rfl) (by rw [ByteArray.toList_eq]; rfl) (by rw [ByteArray.toList_eq]; rfl) (by rw [ByteArray.toList_eq]; rfl)) (fun w => r_xor n n2 w)
            · skip
              by_cases h6 : op = ⟨#[47]⟩
              · subst h6
                by_cases z : n2 = 0
                · subst z
                  exact int_fault ⟨#[47]⟩ sDivide ⟨#[]⟩ t s n f ro rf rl rc pa ia pn pc iN ic s2 0 f2 ro2 rf2 rl2 rc2 pa2 ia2 pn2 pc2 iN2 ic2 _ _ _ false 0 w hG sDiv_ne (fun W _ => i_div0 t s n f ro rf rl rc pa ia pn pc iN ic s2 0 f2 ro2 rf2 rl2 rc2 pa2 ia2 pn2 pc2 iN2 ic2 W) (fun w => ro_int t s n f ro rf rl rc pa ia pn pc iN ic s2 0 f2 ro2 rf2 rl2 rc2 pa2 ia2 pn2 pc2 iN2 ic2 w) (fun w => wh_no ⟨#[47]⟩ _ _ _ w (by rw [ByteArray.toList_eq]; rfl) (by rw [ByteArray.toList_eq]; rfl) (by rw [ByteArray.toList_eq]; rfl) (by rw [ByteArray.toList_eq]; rfl)) (fun w => r_div0 n 0 w)
                · by_cases m : n2 = -1
                  · subst m
                    exact int_law ⟨#[47]⟩ t s n f ro rf rl rc pa ia pn pc iN ic s2 (-1) f2 ro2 rf2 rl2 rc2 pa2 ia2 pn2 pc2 iN2 ic2 _ _ _ false (wrap64 (-n)) w hG (fun w => i_divm t s n f ro rf rl rc pa ia pn pc iN ic s2 (-1) f2 ro2 rf2 rl2 rc2 pa2 ia2 pn2 pc2 iN2 ic2 w) (fun w => ro_int t s n f ro rf rl rc pa ia pn pc iN ic s2 (-1) f2 ro2 rf2 rl2 rc2 pa2 ia2 pn2 pc2 iN2 ic2 w) (fun w => wh_no ⟨#[47]⟩ _ _ _ w (by rw [ByteArray.toList_eq]; rfl) (by rw [ByteArray.toList_eq]; rfl) (by rw [ByteArray.toList_eq]; rfl) (by rw [ByteArray.toList_eq]; rfl)) (fun w => r_divm n (-1) w)
                  · exact int_law ⟨#[47]⟩ t s n f ro rf rl rc pa ia pn pc iN ic s2 n2 f2 ro2 rf2 rl2 rc2 pa2 ia2 pn2 pc2 iN2 ic2 _ _ _ false (wrap64 (n.tdiv n2)) w hG (fun w => i_div t s n f ro rf rl rc pa ia pn pc iN ic s2 n2 f2 ro2 rf2 rl2 rc2 pa2 ia2 pn2 pc2 iN2 ic2 z m w) (fun w => ro_int t s n f ro rf rl rc pa ia pn pc iN ic s2 n2 f2 ro2 rf2 rl2 rc2 pa2 ia2 pn2 pc2 iN2 ic2 w) (fun w => wh_no ⟨#[47]⟩ _ _ _ w (by rw [ByteArray.toList_eq]; rfl) (by rw [ByteArray.toList_eq]; rfl) (by rw [ByteArray.toList_eq]; rfl) (by rw [ByteArray.toList_eq]; rfl)) (fun w => r_div n n2 z m w)
              · skip
                by_cases h7 : op = ⟨#[37]⟩
                · subst h7
                  by_cases z : n2 = 0
                  · subst z
                    exact int_fault ⟨#[37]⟩ sDivide ⟨#[]⟩ t s n f ro rf rl rc pa ia pn pc iN ic s2 0 f2 ro2 rf2 rl2 rc2 pa2 ia2 pn2 pc2 iN2 ic2 _ _ _ false 0 w hG sDiv_ne (fun W _ => i_rem0 t s n f ro rf rl rc pa ia pn pc iN ic s2 0 f2 ro2 rf2 rl2 rc2 pa2 ia2 pn2 pc2 iN2 ic2 W) (fun w => ro_int t s n f ro rf rl rc pa ia pn pc iN ic s2 0 f2 ro2 rf2 rl2 rc2 pa2 ia2 pn2 pc2 iN2 ic2 w) (fun w => wh_no ⟨#[37]⟩ _ _ _ w (by rw [ByteArray.toList_eq]; rfl) (by rw [ByteArray.toList_eq]; rfl) (by rw [ByteArray.toList_eq]; rfl) (by rw [ByteArray.toList_eq]; rfl)) (fun w => r_rem0 n 0 w)
                  · by_cases m : n2 = -1
                    · subst m
                      exact int_law ⟨#[37]⟩ t s n f ro rf rl rc pa ia pn pc iN ic s2 (-1) f2 ro2 rf2 rl2 rc2 pa2 ia2 pn2 pc2 iN2 ic2 _ _ _ false (wrap64 (n - wrap64 (-wrap64 (-n)))) w hG (fun w => i_remm t s n f ro rf rl rc pa ia pn pc iN ic s2 (-1) f2 ro2 rf2 rl2 rc2 pa2 ia2 pn2 pc2 iN2 ic2 w) (fun w => ro_int t s n f ro rf rl rc pa ia pn pc iN ic s2 (-1) f2 ro2 rf2 rl2 rc2 pa2 ia2 pn2 pc2 iN2 ic2 w) (fun w => wh_no ⟨#[37]⟩ _ _ _ w (by rw [ByteArray.toList_eq]; rfl) (by rw [ByteArray.toList_eq]; rfl) (by rw [ByteArray.toList_eq]; rfl) (by rw [ByteArray.toList_eq]; rfl)) (fun w => by have h := r_remm n (-1) w; rw [← restm_eq hn] at h; exact h)
                    · exact int_law ⟨#[37]⟩ t s n f ro rf rl rc pa ia pn pc iN ic s2 n2 f2 ro2 rf2 rl2 rc2 pa2 ia2 pn2 pc2 iN2 ic2 _ _ _ false (wrap64 (n - wrap64 (wrap64 (n.tdiv n2) * n2))) w hG (fun w => i_rem t s n f ro rf rl rc pa ia pn pc iN ic s2 n2 f2 ro2 rf2 rl2 rc2 pa2 ia2 pn2 pc2 iN2 ic2 z m w) (fun w => ro_int t s n f ro rf rl rc pa ia pn pc iN ic s2 n2 f2 ro2 rf2 rl2 rc2 pa2 ia2 pn2 pc2 iN2 ic2 w) (fun w => wh_no ⟨#[37]⟩ _ _ _ w (by rw [ByteArray.toList_eq]; rfl) (by rw [ByteArray.toList_eq]; rfl) (by rw [ByteArray.toList_eq]; rfl) (by rw [ByteArray.toList_eq]; rfl)) (fun w => by have h := r_rem n n2 z m w; rw [Int.mul_comm n2] at h; exact h)
                · skip
                  by_cases h8 : op = ⟨#[60, 60]⟩
                  · subst h8
                    by_cases z : n2 < 0
                    · exact int_fault ⟨#[60, 60]⟩ sCount _ t s n f ro rf rl rc pa ia pn pc iN ic s2 n2 f2 ro2 rf2 rl2 rc2 pa2 ia2 pn2 pc2 iN2 ic2 _ _ _ false 0 w hG sCount_ne (fun W hW => i_shln t s n f ro rf rl rc pa ia pn pc iN ic s2 n2 f2 ro2 rf2 rl2 rc2 pa2 ia2 pn2 pc2 iN2 ic2 W hn2 z (hTB W hW)) (fun w => ro_int t s n f ro rf rl rc pa ia pn pc iN ic s2 n2 f2 ro2 rf2 rl2 rc2 pa2 ia2 pn2 pc2 iN2 ic2 w) (fun w => wh_no ⟨#[60, 60]⟩ _ _ _ w (by rw [ByteArray.toList_eq]; rfl) (by rw [ByteArray.toList_eq]; rfl) (by rw [ByteArray.toList_eq]; rfl) (by rw [ByteArray.toList_eq]; rfl)) (fun w => r_shln n n2 hn2 z w)
                    · exact int_law ⟨#[60, 60]⟩ t s n f ro rf rl rc pa ia pn pc iN ic s2 n2 f2 ro2 rf2 rl2 rc2 pa2 ia2 pn2 pc2 iN2 ic2 _ _ _ false (wrap64 (n * 2 ^ (min n2 64).toNat)) w hG (fun w => i_shl t s n f ro rf rl rc pa ia pn pc iN ic s2 n2 f2 ro2 rf2 rl2 rc2 pa2 ia2 pn2 pc2 iN2 ic2 (by omega) w) (fun w => ro_int t s n f ro rf rl rc pa ia pn pc iN ic s2 n2 f2 ro2 rf2 rl2 rc2 pa2 ia2 pn2 pc2 iN2 ic2 w) (fun w => wh_no ⟨#[60, 60]⟩ _ _ _ w (by rw [ByteArray.toList_eq]; rfl) (by rw [ByteArray.toList_eq]; rfl) (by rw [ByteArray.toList_eq]; rfl) (by rw [ByteArray.toList_eq]; rfl)) (fun w => r_shl n n2 hn (by omega) w)
                  · skip
                    by_cases h9 : op = ⟨#[62, 62]⟩
                    · subst h9
                      by_cases z : n2 < 0
                      · exact int_fault ⟨#[62, 62]⟩ sCount _ t s n f ro rf rl rc pa ia pn pc iN ic s2 n2 f2 ro2 rf2 rl2 rc2 pa2 ia2 pn2 pc2 iN2 ic2 _ _ _ false 0 w hG sCount_ne (fun W hW => i_shrn t s n f ro rf rl rc pa ia pn pc iN ic s2 n2 f2 ro2 rf2 rl2 rc2 pa2 ia2 pn2 pc2 iN2 ic2 W hn2 z (hTB W hW)) (fun w => ro_int t s n f ro rf rl rc pa ia pn pc iN ic s2 n2 f2 ro2 rf2 rl2 rc2 pa2 ia2 pn2 pc2 iN2 ic2 w) (fun w => wh_no ⟨#[62, 62]⟩ _ _ _ w (by rw [ByteArray.toList_eq]; rfl) (by rw [ByteArray.toList_eq]; rfl) (by rw [ByteArray.toList_eq]; rfl) (by rw [ByteArray.toList_eq]; rfl)) (fun w => r_shrn n n2 hn2 z w)
                      · exact int_law ⟨#[62, 62]⟩ t s n f ro rf rl rc pa ia pn pc iN ic s2 n2 f2 ro2 rf2 rl2 rc2 pa2 ia2 pn2 pc2 iN2 ic2 _ _ _ false (n / 2 ^ (min n2 63).toNat) w hG (fun w => i_shr t s n f ro rf rl rc pa ia pn pc iN ic s2 n2 f2 ro2 rf2 rl2 rc2 pa2 ia2 pn2 pc2 iN2 ic2 (by omega) w) (fun w => ro_int t s n f ro rf rl rc pa ia pn pc iN ic s2 n2 f2 ro2 rf2 rl2 rc2 pa2 ia2 pn2 pc2 iN2 ic2 w) (fun w => wh_no ⟨#[62, 62]⟩ _ _ _ w (by rw [ByteArray.toList_eq]; rfl) (by rw [ByteArray.toList_eq]; rfl) (by rw [ByteArray.toList_eq]; rfl) (by rw [ByteArray.toList_eq]; rfl)) (fun w => r_shr n n2 hn (by omega) w)
                    · skip
                      by_cases h10 : op = ⟨#[60]⟩
                      · subst h10
                        refine cmp_law2 ⟨#[60]⟩ t s n f ro rf rl rc pa ia pn pc iN ic s2 n2 f2 ro2 rf2 rl2 rc2 pa2 ia2 pn2 pc2 iN2 ic2 _ _ _ (true && decide (n < n2)) w hG (fun w => b43_ok ⟨#[60]⟩ t s n f ro rf rl rc pa ia pn pc iN ic s2 n2 f2 ro2 rf2 rl2 rc2 pa2 ia2 pn2 pc2 iN2 ic2 (yes (true && decide (n < n2))) true w fun w => ?_) (fun w => ro_int t s n f ro rf rl rc pa ia pn pc iN ic s2 n2 f2 ro2 rf2 rl2 rc2 pa2 ia2 pn2 pc2 iN2 ic2 w) (fun w => wh_lt _ _ _ w)
                        rcases Int.lt_trichotomy n n2 with h | h | h
                        · have e : (true && decide (n < n2)) = true := by simp; omega
                          rw [e]
                          exact i_lt_l t s n f ro rf rl rc pa ia pn pc iN ic s2 n2 f2 ro2 rf2 rl2 rc2 pa2 ia2 pn2 pc2 iN2 ic2 h w
                        · have e : (true && decide (n < n2)) = false := by simp; omega
                          rw [e]
                          exact i_lt_e t s n f ro rf rl rc pa ia pn pc iN ic s2 n2 f2 ro2 rf2 rl2 rc2 pa2 ia2 pn2 pc2 iN2 ic2 h w
                        · have e : (true && decide (n < n2)) = false := by simp; omega
                          rw [e]
                          exact i_lt_g t s n f ro rf rl rc pa ia pn pc iN ic s2 n2 f2 ro2 rf2 rl2 rc2 pa2 ia2 pn2 pc2 iN2 ic2 h w
                      · skip
                        by_cases h11 : op = ⟨#[60, 61]⟩
                        · subst h11
                          refine cmp_law2 ⟨#[60, 61]⟩ t s n f ro rf rl rc pa ia pn pc iN ic s2 n2 f2 ro2 rf2 rl2 rc2 pa2 ia2 pn2 pc2 iN2 ic2 _ _ _ (true && !decide (n2 < n)) w hG (fun w => b43_ok ⟨#[60, 61]⟩ t s n f ro rf rl rc pa ia pn pc iN ic s2 n2 f2 ro2 rf2 rl2 rc2 pa2 ia2 pn2 pc2 iN2 ic2 (yes (true && !decide (n2 < n))) true w fun w => ?_) (fun w => ro_int t s n f ro rf rl rc pa ia pn pc iN ic s2 n2 f2 ro2 rf2 rl2 rc2 pa2 ia2 pn2 pc2 iN2 ic2 w) (fun w => wh_le _ _ _ w)
                          rcases Int.lt_trichotomy n n2 with h | h | h
                          · have e : (true && !decide (n2 < n)) = true := by simp; omega
                            rw [e]
                            exact i_le_l t s n f ro rf rl rc pa ia pn pc iN ic s2 n2 f2 ro2 rf2 rl2 rc2 pa2 ia2 pn2 pc2 iN2 ic2 h w
                          · have e : (true && !decide (n2 < n)) = true := by simp; omega
                            rw [e]
                            exact i_le_e t s n f ro rf rl rc pa ia pn pc iN ic s2 n2 f2 ro2 rf2 rl2 rc2 pa2 ia2 pn2 pc2 iN2 ic2 h w
                          · have e : (true && !decide (n2 < n)) = false := by simp; omega
                            rw [e]
                            exact i_le_g t s n f ro rf rl rc pa ia pn pc iN ic s2 n2 f2 ro2 rf2 rl2 rc2 pa2 ia2 pn2 pc2 iN2 ic2 h w
                        · skip
                          by_cases h12 : op = ⟨#[62]⟩
                          · subst h12
                            refine cmp_law2 ⟨#[62]⟩ t s n f ro rf rl rc pa ia pn pc iN ic s2 n2 f2 ro2 rf2 rl2 rc2 pa2 ia2 pn2 pc2 iN2 ic2 _ _ _ (true && decide (n2 < n)) w hG (fun w => b43_ok ⟨#[62]⟩ t s n f ro rf rl rc pa ia pn pc iN ic s2 n2 f2 ro2 rf2 rl2 rc2 pa2 ia2 pn2 pc2 iN2 ic2 (yes (true && decide (n2 < n))) true w fun w => ?_) (fun w => ro_int t s n f ro rf rl rc pa ia pn pc iN ic s2 n2 f2 ro2 rf2 rl2 rc2 pa2 ia2 pn2 pc2 iN2 ic2 w) (fun w => wh_gt _ _ _ w)
                            rcases Int.lt_trichotomy n n2 with h | h | h
                            · have e : (true && decide (n2 < n)) = false := by simp; omega
                              rw [e]
                              exact i_gt_l t s n f ro rf rl rc pa ia pn pc iN ic s2 n2 f2 ro2 rf2 rl2 rc2 pa2 ia2 pn2 pc2 iN2 ic2 h w
                            · have e : (true && decide (n2 < n)) = false := by simp; omega
                              rw [e]
                              exact i_gt_e t s n f ro rf rl rc pa ia pn pc iN ic s2 n2 f2 ro2 rf2 rl2 rc2 pa2 ia2 pn2 pc2 iN2 ic2 h w
                            · have e : (true && decide (n2 < n)) = true := by simp; omega
                              rw [e]
                              exact i_gt_g t s n f ro rf rl rc pa ia pn pc iN ic s2 n2 f2 ro2 rf2 rl2 rc2 pa2 ia2 pn2 pc2 iN2 ic2 h w
                          · skip
                            by_cases h13 : op = ⟨#[62, 61]⟩
                            · subst h13
                              refine cmp_law2 ⟨#[62, 61]⟩ t s n f ro rf rl rc pa ia pn pc iN ic s2 n2 f2 ro2 rf2 rl2 rc2 pa2 ia2 pn2 pc2 iN2 ic2 _ _ _ (true && !decide (n < n2)) w hG (fun w => b43_ok ⟨#[62, 61]⟩ t s n f ro rf rl rc pa ia pn pc iN ic s2 n2 f2 ro2 rf2 rl2 rc2 pa2 ia2 pn2 pc2 iN2 ic2 (yes (true && !decide (n < n2))) true w fun w => ?_) (fun w => ro_int t s n f ro rf rl rc pa ia pn pc iN ic s2 n2 f2 ro2 rf2 rl2 rc2 pa2 ia2 pn2 pc2 iN2 ic2 w) (fun w => wh_ge _ _ _ w)
                              rcases Int.lt_trichotomy n n2 with h | h | h
                              · have e : (true && !decide (n < n2)) = false := by simp; omega
                                rw [e]
                                exact i_ge_l t s n f ro rf rl rc pa ia pn pc iN ic s2 n2 f2 ro2 rf2 rl2 rc2 pa2 ia2 pn2 pc2 iN2 ic2 h w
                              · have e : (true && !decide (n < n2)) = true := by simp; omega
                                rw [e]
                                exact i_ge_e t s n f ro rf rl rc pa ia pn pc iN ic s2 n2 f2 ro2 rf2 rl2 rc2 pa2 ia2 pn2 pc2 iN2 ic2 h w
                              · have e : (true && !decide (n < n2)) = true := by simp; omega
                                rw [e]
                                exact i_ge_g t s n f ro rf rl rc pa ia pn pc iN ic s2 n2 f2 ro2 rf2 rl2 rc2 pa2 ia2 pn2 pc2 iN2 ic2 h w
                            · skip
                              refine no_op2 op t s n f ro rf rl rc pa ia pn pc iN ic s2 n2 f2 ro2 rf2 rl2 rc2 pa2 ia2 pn2 pc2 iN2 ic2 (mk 1 sBool 0 0 ⟨#[]⟩) w hG hs (fun w => b43_ok op t s n f ro rf rl rc pa ia pn pc iN ic s2 n2 f2 ro2 rf2 rl2 rc2 pa2 ia2 pn2 pc2 iN2 ic2 (mk 1 sBool 0 0 ⟨#[]⟩) false w fun w => ?_) (fun w => rb_int_no op sOperand _ t s n f ro rf rl rc pa ia pn pc iN ic s2 n2 f2 ro2 rf2 rl2 rc2 pa2 ia2 pn2 pc2 iN2 ic2 _ _ _ false 0 w (fun w => ro_int t s n f ro rf rl rc pa ia pn pc iN ic s2 n2 f2 ro2 rf2 rl2 rc2 pa2 ia2 pn2 pc2 iN2 ic2 w) (fun w => wh_no op _ _ _ w (ne_list h10) (ne_list h11) (ne_list h12) (ne_list h13)) (fun w => r_no op n n2 (ne_list h0) (ne_list h1) (ne_list h2) (ne_list h3) (ne_list h4) (ne_list h5) (ne_list h6) (ne_list h7) (ne_list h8) (ne_list h9) w) (fun w => wrong_any op t t s s2 2 2 n f ro rf rl rc n2 f2 ro2 rf2 rl2 rc2 pa ia pa2 ia2 pn pc iN ic pn2 pc2 iN2 ic2 w hs))
                              rcases Int.lt_trichotomy n n2 with h | h | h
                              · exact i_no_l op t s n f ro rf rl rc pa ia pn pc iN ic s2 n2 f2 ro2 rf2 rl2 rc2 pa2 ia2 pn2 pc2 iN2 ic2 (ne_list h0) (ne_list h1) (ne_list h2) (ne_list h6) (ne_list h7) (ne_list h3) (ne_list h4) (ne_list h5) (ne_list h8) (ne_list h9) (ne_list h11) (ne_list h10) (ne_list h13) (ne_list h12) h w
                              · exact i_no_e op t s n f ro rf rl rc pa ia pn pc iN ic s2 n2 f2 ro2 rf2 rl2 rc2 pa2 ia2 pn2 pc2 iN2 ic2 (ne_list h0) (ne_list h1) (ne_list h2) (ne_list h6) (ne_list h7) (ne_list h3) (ne_list h4) (ne_list h5) (ne_list h8) (ne_list h9) (ne_list h11) (ne_list h10) (ne_list h13) (ne_list h12) h w
                              · exact i_no_g op t s n f ro rf rl rc pa ia pn pc iN ic s2 n2 f2 ro2 rf2 rl2 rc2 pa2 ia2 pn2 pc2 iN2 ic2 (ne_list h0) (ne_list h1) (ne_list h2) (ne_list h6) (ne_list h7) (ne_list h3) (ne_list h4) (ne_list h5) (ne_list h8) (ne_list h9) (ne_list h11) (ne_list h10) (ne_list h13) (ne_list h12) h w
end Go.Proofs.YtehakhplglhkdaaGreatDoor
