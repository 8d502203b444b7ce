/- guiselaw6.back: what was lent is as it was, and is written over. Condition: the path is not long. -/
import Derived.Test.YtehakhplglhkdaaGreatDoorConvS
namespace Go.Proofs.YtehakhplglhkdaaGreatDoor
set_option linter.unusedVariables false
open Go.RowKit

theorem grown_more {w a b : World} {g : Nat} (h : w.grownBy a (some g)) (hb : Below g a b) (hf : ∀ k, k ≠ g → b.heap[k]? = a.heap[k]?) : w.grownBy b (some g) :=
  ⟨hb.os.trans h.os, hb.tape.trans h.tape, hb.output.trans h.output, Nat.le_trans h.size hb.size, fun k hk hne => (hf k (fun e => hne (by rw [e]))).trans (h.block k hk hne)⟩
theorem grown_drewN {w a : World} {g : Option Nat} (h : w.grownBy a g) (n : Nat) : w.grownBy (a.drewN n) g := ⟨h.os, h.tape, h.output, h.size, h.block⟩
theorem IntsAt.far {w w' : World} {A : Option Addr} {l : List Int} {g : Nat} (h : IntsAt w A l) (hne : 0 < l.length → ∀ a, A = some a → a.block ≠ g) (hs : w.heap.size ≤ w'.heap.size) (hf : ∀ k, k ≠ g → w'.heap[k]? = w.heap[k]?) : IntsAt w' A l := fun hp => by
  obtain ⟨b, off, e, hlt, hc⟩ := h hp
  have hb := hne (by simpa using hp) _ e
  exact ⟨b, off, e, Nat.lt_of_lt_of_le hlt hs, fun j u hu => (World.cell?_of_block (a := ⟨b, off + j, none⟩) (hf b hb)).trans (hc j u hu)⟩
set_option maxRecDepth 200000 in
set_option maxHeartbeats 4000000 in
theorem back_any (g : Nat) (l : List Int) (k : Int) (t s : ByteArray) (n f ro rf rl rc : Int) (pa ia : Option Addr) (pc iN ic : Nat) (w : World) (hG : Row w g 3 (intC (l ++ tail2))) (hA : IntsAt w pa l) (hne : 0 < l.length → ∀ a, pa = some a → a.block ≠ g) (hl : l.length ≤ 17592186043904) :
    Calls Tryz.prog 22 #[.slice (some ⟨g, 0, none⟩) (l.length + 2) (l.length + 2), (Dat.mk k t n f s ro rf rl rc pa l.length pc ia iN ic).val] w fun e w' => e = .returned (.bool true) ∧ w.grownBy w' (some g) := by
  have HG := Lib.hid hG
  have HA := Lib.hid hA
  have HN := Lib.hid hne
  have HL : Hid ((l ++ tail2).length = l.length + 2) := Lib.hid (by simp [tail2])
  have k1 : (w.alloc (.cells [.int .i64 k, .string t, .int .i64 n, .int .u64 f, .string s, .int .i64 ro, .int .i64 rf, .int .i64 rl, .int .i64 rc, .slice pa l.length pc, .slice ia iN ic].toArray 28)).cell? ⟨g, l.length, none⟩ = some (.int .i64 (-71)) := by rw [(hG.alloc _).cell]; simp [intC, tail2]
  have k2 : (w.alloc (.cells [.int .i64 k, .string t, .int .i64 n, .int .u64 f, .string s, .int .i64 ro, .int .i64 rf, .int .i64 rl, .int .i64 rc, .slice pa l.length pc, .slice ia iN ic].toArray 28)).cell? ⟨g, l.length + 1, none⟩ = some (.int .i64 (-72)) := by rw [(hG.alloc _).cell]; simp [intC, tail2]
  have hb0 := int_lt0 (show l.length < l.length + 2 by omega)
  have hb1 := int_lt0 (show l.length + 1 < l.length + 2 by omega)
  have glt : Hid (g < w.heap.size) := Lib.hid hG.lt
  clear hG hA hne
  unfold Dat.val
  go_enter Tryz.func22, Tryz.ntmps22
  go_wp2_with fail
  go_loopw [6, 7] (fun o v wr => ∃ i : Nat, o = .bool true ∧ v = .int .i64 i ∧ i ≤ l.length + 2 ∧ Hid (Row wr g 3 (intC (filled (-5) i (l ++ tail2)))) ∧ Hid (wr.cell? ⟨w.heap.size, 9, none⟩ = some (.slice pa l.length pc)) ∧ Hid (IntsAt wr pa l) ∧ Hid (w.grownBy wr (some g)) ∧ Hid (w.heap.size < wr.heap.size)) (fun _ v _ => l.length + 2 - (intOf v).toNat)
  case atStart => exact ⟨0, rfl, rfl, Nat.zero_le _, by rw [filled_zero]; exact HG.out.alloc _, (Row.made w 28 [.int .i64 k, .string t, .int .i64 n, .int .u64 f, .string s, .int .i64 ro, .int .i64 rf, .int .i64 rl, .int .i64 rc, .slice pa l.length pc, .slice ia iN ic]).cell 9, HA.out.below (below1 w _), World.grownBy_alloc w _ _, Lib.hid (by simp)⟩
  case round =>
    clear HG HA k1 k2 hb0 hb1
    rename World => w2
    obtain ⟨i, rfl, rfl, hi, HG, HC, HA, HW, HS⟩ := hrel
    have c1 := HC.out
    by_cases hlt : i < l.length + 2
    · have hb := int_lt0 hlt
      have hset : Hid ((intC (filled (-5) i (l ++ tail2))).set i (.int .i64 (-5)) = intC (filled (-5) (i + 1) (l ++ tail2))) := Lib.hid (by rw [← intC_set, filled_set _ _ _ (by rw [HL.out]; exact hlt)])
      have hlen : Hid ((intC (filled (-5) i (l ++ tail2))).length = l.length + 2) := Lib.hid (by rw [intC_length, filled_length _ _ _ (by rw [HL.out]; exact hi), HL.out])
      by_cases hin : i < l.length
      · have f1 : w2.cell? ⟨g, i, none⟩ = some (.int .i64 l[i]) := by
          rw [HG.out.cell]
          simp only [intC, List.getElem?_map]
          rw [filled_get (-5) i i _ (Nat.le_refl _) (by rw [HL.out]; omega), List.getElem_append_left hin]
          rfl
        obtain ⟨pb, po, rfl, hpb, hpc⟩ := HA.out.at_ (by omega)
        have f2 := hpc i hin
        have hb2 := int_lt0 hin
        have hd : decide ((i : Int) < (l.length : Int)) = true := decide_eq_true (by omega)
        clear hpc hpb
        go_wp2_with fail
        go_quiet (fail)
        go_wp2_with (refine put_at (.tmp 49) _ 3 g i 3 (intC (filled (-5) i (l ++ tail2))) [.int .i64 (-5)] _ _ rfl rfl rfl rfl rfl size3 (by simp [Value.oneCell']) (HG.out.drewN _) (by rw [hlen.out]; simp; omega) ?_; intro w3 hr3 hb3 hf3)
        have r3 : Row w3 g 3 (intC (filled (-5) (i + 1) (l ++ tail2))) := by rw [← hset.out, ← set_take_drop _ _ _ (by rw [hlen.out]; exact hlt)]; exact hr3
        have hsz := (hb3 g (Nat.le_refl _)).size
        go_roundw
        case rel => exact ⟨i + 1, rfl, by go_num, by omega, r3, (World.cell?_of_block (a := ⟨w.heap.size, 9, none⟩) (hf3 w.heap.size (by have := glt.out; omega))).trans HC.out, HA.out.far HN.out hsz hf3, grown_more (grown_drewN HW.out _) (hb3 g (Nat.le_refl _)) hf3, Nat.lt_of_lt_of_le HS.out hsz⟩
        case measure => simp [intOf]; omega
      · have hd : decide ((i : Int) < (l.length : Int)) = false := decide_eq_false (by omega)
        go_wp2_with fail
        go_quiet (fail)
        go_wp2_with (refine put_at (.tmp 49) _ 3 g i 3 (intC (filled (-5) i (l ++ tail2))) [.int .i64 (-5)] _ _ rfl rfl rfl rfl rfl size3 (by simp [Value.oneCell']) (HG.out.drewN _) (by rw [hlen.out]; simp; omega) ?_; intro w3 hr3 hb3 hf3)
        have r3 : Row w3 g 3 (intC (filled (-5) (i + 1) (l ++ tail2))) := by rw [← hset.out, ← set_take_drop _ _ _ (by rw [hlen.out]; exact hlt)]; exact hr3
        have hsz := (hb3 g (Nat.le_refl _)).size
        go_roundw
        case rel => exact ⟨i + 1, rfl, by go_num, by omega, r3, (World.cell?_of_block (a := ⟨w.heap.size, 9, none⟩) (hf3 w.heap.size (by have := glt.out; omega))).trans HC.out, HA.out.far HN.out hsz hf3, grown_more (grown_drewN HW.out _) (hb3 g (Nat.le_refl _)) hf3, Nat.lt_of_lt_of_le HS.out hsz⟩
        case measure => simp [intOf]; omega
    · go_wp2_with fail
      go_ret
      exact ⟨rfl, HW.out⟩
end Go.Proofs.YtehakhplglhkdaaGreatDoor
