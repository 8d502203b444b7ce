/- strings.Join at the seat's own numbers, under Go's own limit of 2^48 bytes. -/
import Derived.Test.YtehakhplglhkdaaGreatDoorShelf
import Derived.Room.Shelf.Join48
namespace Go.Proofs.YtehakhplglhkdaaGreatDoor
open Go.RowKit
theorem Tryz.strings_Join_48 (bk o c : Nat) (xs : List ByteArray) (sep : ByteArray) (w : World) (hcells : ∀ (j : Nat) x, xs[j]? = some x → w.cell? ⟨bk, o + j, none⟩ = some (.string x)) (hbk : bk < w.heap.size) (hN : xs.length ≤ 140737488355328) (hcap : xs.length ≤ c) (hlen : (Lib.join (xs.map (·.data.toList)) sep.data.toList).length ≤ 281474976710656) :
    Calls Tryz.prog 66 #[.slice (some ⟨bk, o, none⟩) xs.length c, .string sep] w fun e w' => e = .returned (.string ⟨(Lib.join (xs.map (·.data.toList)) sep.data.toList).toArray⟩) ∧ Below w.heap.size w w' := Any.strings_Join_48 Tryz.lays156 Tryz.Builder_Extra_156 bk o c xs sep w hcells hbk hN hcap hlen
end Go.Proofs.YtehakhplglhkdaaGreatDoor
