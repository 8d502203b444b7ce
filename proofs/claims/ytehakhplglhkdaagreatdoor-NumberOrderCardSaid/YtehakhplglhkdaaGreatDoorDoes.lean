/- guiselaw6.does and pick, by the contract of number.Binary. -/
import Derived.Test.YtehakhplglhkdaaGreatDoorKnown
import Derived.Test.YtehakhplglhkdaaGreatDoorBinB
import Derived.Test.YtehakhplglhkdaaGreatDoorBinC
import Derived.Test.YtehakhplglhkdaaGreatDoorRingPlain
namespace Go.Proofs.YtehakhplglhkdaaGreatDoor
set_option linter.unusedVariables false
open Go.RowKit

theorem does_of (op t : ByteArray) (a b r : Int) (w : World)
    (hc : ∀ w, Calls Tryz.prog 17 #[.string op, (mk 2 t a 0 ⟨#[]⟩).val, (mk 2 t b 0 ⟨#[]⟩).val] w fun e w' => e = .returned (.tuple #[(mk 2 t r 0 ⟨#[]⟩).val, .nilIface]) ∧ Below w.heap.size w w') :
    Calls Tryz.prog 28 #[.string t, .string op, .int .i64 a, .int .i64 b] w fun e w' => e = .returned (.tuple #[.int .i64 r, .bool true]) ∧ Below w.heap.size w w' := by
  unfold mk Dat.val at hc
  go_enter Tryz.func28, Tryz.ntmps28
  go_wp2_with (first
    | (go_at_call 29; go_in)
    | (go_at_call 17; refine (hc _).mono ?_; rintro en w2 ⟨rfl, hb⟩
       have HB2 : Hid (Below w.heap.size w w2) := below_more (below2 w _ _) hb (by simp; omega)
       have hlt := HB2.out.size
       clear hb hc))
  go_quiet (fail)
  go_wp2
  go_returns
  refine And.intro rfl ?_
  with_reducible refine below_drewN ?_ _
  exact below_more HB2.out (below1 _ _) HB2.out.size
theorem pick_any (c m : Int) (hm : 0 < m) (hm2 : m ≤ 9223372036854775807) (w : World) (hc : I64 c) :
    Calls Tryz.prog 30 #[.int .i64 c, .int .i64 m] w fun e w' => ∃ n : Nat, e = .returned (.int .i64 n) ∧ (n : Int) < m ∧ w' = w := by
  obtain ⟨h1, h2⟩ := hc
  have hm0 : (m == 0) = false := by simp; omega
  by_cases hn : c < 0
  · have hw : wrap64 (-wrap64 (c + 1)) = -(c + 1) := by unfold wrap64; omega
    go_enter Tryz.func30, Tryz.ntmps30
    go_wp2
    go_returns
    have h3 : 0 ≤ -((c + 1).tmod m) := by rw [← Int.neg_tmod]; exact Int.tmod_nonneg m (by omega)
    have h4 : -((c + 1).tmod m) < m := by rw [← Int.neg_tmod]; exact Int.tmod_lt_of_pos _ hm
    obtain ⟨n, hn⟩ := Int.eq_ofNat_of_zero_le h3
    refine ⟨n, ?_, by omega, rfl⟩
    show Ending.returned (.int .i64 (-((c + 1).tmod m))) = _
    rw [hn]
  · go_enter Tryz.func30, Tryz.ntmps30
    go_wp2
    go_returns
    have h3 := Int.emod_nonneg c (show m ≠ 0 by omega)
    have h4 := Int.emod_lt_of_pos c hm
    obtain ⟨n, hn⟩ := Int.eq_ofNat_of_zero_le h3
    refine ⟨n, ?_, by omega, rfl⟩
    show Ending.returned (.int .i64 (c % m)) = _
    rw [hn]
end Go.Proofs.YtehakhplglhkdaaGreatDoor
