/- A bool as number.Binary answers it. -/
import Derived.Test.YtehakhplglhkdaaGreatDoorSmall
namespace Go.Proofs.YtehakhplglhkdaaGreatDoor
open Go.RowKit
/-- A bool as number.Binary answers it. -/
def yes (r : Bool) : Dat := mk 1 sBool (if r then 1 else 0) 0 ⟨#[]⟩
end Go.Proofs.YtehakhplglhkdaaGreatDoor
