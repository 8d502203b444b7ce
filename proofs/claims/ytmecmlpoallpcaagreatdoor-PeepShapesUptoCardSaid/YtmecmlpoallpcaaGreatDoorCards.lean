/-
  DERIVED. GIVEN WITH THE SEED: THE CARDS: each row of YtmecmlpoallpcaaGreatDoorRows.lean that lists a variable, with what it lists TIED to the program's text (the seventh form; the later family's looks); each row that meets fmt, with fmt's text TOLD by the authors' own Lean function (tested against real Go, not proved from fmt's source: count such statements apart). THE CARD IS WHAT COUNTS. Prove the row's statement (the work); the ties are given (YtmecmlpoallpcaaGreatDoorTie.lean); close each card by the builder's one call (the guide's Derived/Test/ToyasCard.lean, 'card_holds'). Laid BY PROGRAM, IN A SANDBOX (cutbox-door.mjs). By AI agents, Wed Nov 11 2026. No macro, syntax, notation, axiom, sorry.
-/
import Derived.Test.YtmecmlpoallpcaaGreatDoorRows
import GoSem.ClaimSeven
namespace Go.Proofs.YtmecmlpoallpcaaGreatDoor
namespace Rows

/-- THE TIED CARD OF 'guiselaw15.PeepShapes'. -/
def peepShapesCard : Claim7 := { stood := { row := peepShapesRow, standIns := [], harness := (true, "91a5faecf2de6fffc45d17230bfec6ce5ad3e24cba69ef889ca7a0a21e12fb6e"), looks := true }, kinds := [], alts := [], laidByText := true, laidKinds := [.data, .data, .data, .data, .sentinel, .sentinel, .listed, .data, .data, .pinned, .pinned], laidTests := true, laidLooks := .later }
def PeepShapesCardSaid : Prop := Claim7.holds Tryz.pinned (.plain (OpenSpec.ofChange peepShapesSpec)) peepShapesCard

/-- THE TIED CARD OF 'guiselaw15.PeepOnce'. -/
def peepOnceCard : Claim7 := { stood := { row := peepOnceRow, standIns := [], harness := (true, "91a5faecf2de6fffc45d17230bfec6ce5ad3e24cba69ef889ca7a0a21e12fb6e"), looks := true }, kinds := [], alts := [], laidByText := true, laidKinds := [.data, .data, .data, .data, .sentinel, .sentinel, .listed, .data, .data, .pinned, .pinned], laidTests := true, laidLooks := .later }
def PeepOnceCardSaid : Prop := Claim7.holds Tryz.pinned (.plain (OpenSpec.ofChange peepOnceSpec)) peepOnceCard

/-- THE SECOND FORM's CARD OF 'guiselaw15.PeepShapes'. -/
def peepShapesUptoCard : Claim7 := { stood := { row := peepShapesUptoRow, standIns := [], harness := (true, "91a5faecf2de6fffc45d17230bfec6ce5ad3e24cba69ef889ca7a0a21e12fb6e"), looks := true }, kinds := [], alts := [], laidByText := true, laidKinds := [.data, .data, .data, .data, .sentinel, .sentinel, .listed, .data, .data, .pinned, .pinned], laidTests := true, laidLooks := .later }
def PeepShapesUptoCardSaid : Prop := Claim7.holds Tryz.pinned (.plain (OpenSpec.upto peepShapesSpec)) peepShapesUptoCard

/-- THE SECOND FORM's CARD OF 'guiselaw15.PeepOnce'. -/
def peepOnceUptoCard : Claim7 := { stood := { row := peepOnceUptoRow, standIns := [], harness := (true, "91a5faecf2de6fffc45d17230bfec6ce5ad3e24cba69ef889ca7a0a21e12fb6e"), looks := true }, kinds := [], alts := [], laidByText := true, laidKinds := [.data, .data, .data, .data, .sentinel, .sentinel, .listed, .data, .data, .pinned, .pinned], laidTests := true, laidLooks := .later }
def PeepOnceUptoCardSaid : Prop := Claim7.holds Tryz.pinned (.plain (OpenSpec.upto peepOnceSpec)) peepOnceUptoCard
end Rows
end Go.Proofs.YtmecmlpoallpcaaGreatDoor
