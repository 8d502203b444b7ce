/-
  DERIVED. GIVEN WITH THE SEED: THE CARDS: each row of YtehakhplglhkdaaGreatDoorRows.lean that lists a variable, with what it lists TIED to the program's text (the seventh form; the later family's looks); each row that meets fmt, with fmt's text TOLD by the authors' own Lean function (tested against real Go, not proved from fmt's source: count such statements apart). THE CARD IS WHAT COUNTS. Prove the row's statement (the work); the ties are given (YtehakhplglhkdaaGreatDoorTie.lean); close each card by the builder's one call (the guide's Derived/Test/ToyasCard.lean, 'card_holds'). Laid BY PROGRAM, IN A SANDBOX (cutbox-door.mjs). By AI agents, Wed Nov 11 2026. No macro, syntax, notation, axiom, sorry.
-/
import Derived.Test.YtehakhplglhkdaaGreatDoorRows
import GoSem.ClaimSeven
namespace Go.Proofs.YtehakhplglhkdaaGreatDoor
namespace Rows

/-- THE TIED CARD OF 'guiselaw6.NumberUnary'. -/
def numberUnaryCard : Claim7 := { stood := { row := numberUnaryRow, standIns := [], harness := (true, "56ad8e3283970cf84e8f495d2f1def0377df54ad18073ab1af1dfd0530677b65"), looks := true }, kinds := [], alts := [], laidByText := true, laidKinds := [.data, .data, .widerDeep, .widerDeep, .data, .data, .data, .data, .data, .sentinel, .sentinel, .pinned, .pinned], laidTests := true, laidLooks := .later }
def NumberUnaryCardSaid : Prop := Claim7.holds Tryz.pinned (.plain (OpenSpec.ofChange numberUnarySpec)) numberUnaryCard

/-- THE TIED CARD OF 'guiselaw6.NumberBinary'. -/
def numberBinaryCard : Claim7 := { stood := { row := numberBinaryRow, standIns := [], harness := (true, "56ad8e3283970cf84e8f495d2f1def0377df54ad18073ab1af1dfd0530677b65"), looks := true }, kinds := [], alts := [], laidByText := true, laidKinds := [.data, .data, .widerDeep, .widerDeep, .data, .data, .data, .data, .data, .sentinel, .sentinel, .pinned, .pinned], laidTests := true, laidLooks := .later }
def NumberBinaryCardSaid : Prop := Claim7.holds Tryz.pinned (.plain (OpenSpec.ofChange numberBinarySpec)) numberBinaryCard

/-- THE TIED CARD OF 'guiselaw6.NumberConvert'. -/
def numberConvertCard : Claim7 := { stood := { row := numberConvertRow, standIns := [], harness := (true, "56ad8e3283970cf84e8f495d2f1def0377df54ad18073ab1af1dfd0530677b65"), looks := true }, kinds := [], alts := [], laidByText := true, laidKinds := [.data, .data, .widerDeep, .widerDeep, .data, .data, .data, .data, .data, .sentinel, .sentinel, .pinned, .pinned], laidTests := true, laidLooks := .later }
def NumberConvertCardSaid : Prop := Claim7.holds Tryz.pinned (.plain (OpenSpec.ofChange numberConvertSpec)) numberConvertCard

/-- THE TIED CARD OF 'guiselaw6.NumberReads'. -/
def numberReadsCard : Claim7 := { stood := { row := numberReadsRow, standIns := [], harness := (true, "56ad8e3283970cf84e8f495d2f1def0377df54ad18073ab1af1dfd0530677b65"), looks := true }, kinds := [], alts := [], laidByText := true, laidKinds := [.data, .data, .widerDeep, .widerDeep, .data, .data, .data, .data, .data, .sentinel, .sentinel, .pinned, .pinned], laidTests := true, laidLooks := .later }
def NumberReadsCardSaid : Prop := Claim7.holds Tryz.pinned (.plain (OpenSpec.ofChange numberReadsSpec)) numberReadsCard

/-- THE TIED CARD OF 'guiselaw6.NumberRing'. -/
def numberRingCard : Claim7 := { stood := { row := numberRingRow, standIns := [], harness := (true, "56ad8e3283970cf84e8f495d2f1def0377df54ad18073ab1af1dfd0530677b65"), looks := true }, kinds := [], alts := [], laidByText := true, laidKinds := [.data, .data, .widerDeep, .widerDeep, .data, .data, .data, .data, .data, .sentinel, .sentinel, .pinned, .pinned], laidTests := true, laidLooks := .later }
def NumberRingCardSaid : Prop := Claim7.holds Tryz.pinned (.plain (OpenSpec.ofChange numberRingSpec)) numberRingCard

/-- THE TIED CARD OF 'guiselaw6.NumberOrder'. -/
def numberOrderCard : Claim7 := { stood := { row := numberOrderRow, standIns := [], harness := (true, "56ad8e3283970cf84e8f495d2f1def0377df54ad18073ab1af1dfd0530677b65"), looks := true }, kinds := [], alts := [], laidByText := true, laidKinds := [.data, .data, .widerDeep, .widerDeep, .data, .data, .data, .data, .data, .sentinel, .sentinel, .pinned, .pinned], laidTests := true, laidLooks := .later }
def NumberOrderCardSaid : Prop := Claim7.holds Tryz.pinned (.plain (OpenSpec.ofChange numberOrderSpec)) numberOrderCard

/-- THE TIED CARD OF 'guiselaw6.NumberTexts'. -/
def numberTextsCard : Claim7 := { stood := { row := numberTextsRow, standIns := [], harness := (true, "56ad8e3283970cf84e8f495d2f1def0377df54ad18073ab1af1dfd0530677b65"), looks := true }, kinds := [], alts := [], laidByText := true, laidKinds := [.data, .data, .widerDeep, .widerDeep, .data, .data, .data, .data, .data, .sentinel, .sentinel, .pinned, .pinned], laidTests := true, laidLooks := .later }
def NumberTextsCardSaid : Prop := Claim7.holds Tryz.pinned (.plain (OpenSpec.ofChange numberTextsSpec)) numberTextsCard

/-- THE TIED CARD OF 'guiselaw6.NumberBack'. -/
def numberBackCard : Claim7 := { stood := { row := numberBackRow, standIns := [], harness := (true, "56ad8e3283970cf84e8f495d2f1def0377df54ad18073ab1af1dfd0530677b65"), looks := true }, kinds := [], alts := [], laidByText := true, laidKinds := [.data, .data, .widerDeep, .widerDeep, .data, .data, .data, .data, .data, .sentinel, .sentinel, .pinned, .pinned], laidTests := true, laidLooks := .later }
def NumberBackCardSaid : Prop := Claim7.holds Tryz.pinned (.plain (OpenSpec.ofChange numberBackSpec)) numberBackCard

/-- THE SECOND FORM's CARD OF 'guiselaw6.NumberUnary'. -/
def numberUnaryUptoCard : Claim7 := { stood := { row := numberUnaryUptoRow, standIns := [], harness := (true, "56ad8e3283970cf84e8f495d2f1def0377df54ad18073ab1af1dfd0530677b65"), looks := true }, kinds := [], alts := [], laidByText := true, laidKinds := [.data, .data, .widerDeep, .widerDeep, .data, .data, .data, .data, .data, .sentinel, .sentinel, .pinned, .pinned], laidTests := true, laidLooks := .later }
def NumberUnaryUptoCardSaid : Prop := Claim7.holds Tryz.pinned (.plain (OpenSpec.upto numberUnarySpec)) numberUnaryUptoCard

/-- THE SECOND FORM's CARD OF 'guiselaw6.NumberBinary'. -/
def numberBinaryUptoCard : Claim7 := { stood := { row := numberBinaryUptoRow, standIns := [], harness := (true, "56ad8e3283970cf84e8f495d2f1def0377df54ad18073ab1af1dfd0530677b65"), looks := true }, kinds := [], alts := [], laidByText := true, laidKinds := [.data, .data, .widerDeep, .widerDeep, .data, .data, .data, .data, .data, .sentinel, .sentinel, .pinned, .pinned], laidTests := true, laidLooks := .later }
def NumberBinaryUptoCardSaid : Prop := Claim7.holds Tryz.pinned (.plain (OpenSpec.upto numberBinarySpec)) numberBinaryUptoCard

/-- THE SECOND FORM's CARD OF 'guiselaw6.NumberConvert'. -/
def numberConvertUptoCard : Claim7 := { stood := { row := numberConvertUptoRow, standIns := [], harness := (true, "56ad8e3283970cf84e8f495d2f1def0377df54ad18073ab1af1dfd0530677b65"), looks := true }, kinds := [], alts := [], laidByText := true, laidKinds := [.data, .data, .widerDeep, .widerDeep, .data, .data, .data, .data, .data, .sentinel, .sentinel, .pinned, .pinned], laidTests := true, laidLooks := .later }
def NumberConvertUptoCardSaid : Prop := Claim7.holds Tryz.pinned (.plain (OpenSpec.upto numberConvertSpec)) numberConvertUptoCard

/-- THE SECOND FORM's CARD OF 'guiselaw6.NumberReads'. -/
def numberReadsUptoCard : Claim7 := { stood := { row := numberReadsUptoRow, standIns := [], harness := (true, "56ad8e3283970cf84e8f495d2f1def0377df54ad18073ab1af1dfd0530677b65"), looks := true }, kinds := [], alts := [], laidByText := true, laidKinds := [.data, .data, .widerDeep, .widerDeep, .data, .data, .data, .data, .data, .sentinel, .sentinel, .pinned, .pinned], laidTests := true, laidLooks := .later }
def NumberReadsUptoCardSaid : Prop := Claim7.holds Tryz.pinned (.plain (OpenSpec.upto numberReadsSpec)) numberReadsUptoCard

/-- THE SECOND FORM's CARD OF 'guiselaw6.NumberRing'. -/
def numberRingUptoCard : Claim7 := { stood := { row := numberRingUptoRow, standIns := [], harness := (true, "56ad8e3283970cf84e8f495d2f1def0377df54ad18073ab1af1dfd0530677b65"), looks := true }, kinds := [], alts := [], laidByText := true, laidKinds := [.data, .data, .widerDeep, .widerDeep, .data, .data, .data, .data, .data, .sentinel, .sentinel, .pinned, .pinned], laidTests := true, laidLooks := .later }
def NumberRingUptoCardSaid : Prop := Claim7.holds Tryz.pinned (.plain (OpenSpec.upto numberRingSpec)) numberRingUptoCard

/-- THE SECOND FORM's CARD OF 'guiselaw6.NumberOrder'. -/
def numberOrderUptoCard : Claim7 := { stood := { row := numberOrderUptoRow, standIns := [], harness := (true, "56ad8e3283970cf84e8f495d2f1def0377df54ad18073ab1af1dfd0530677b65"), looks := true }, kinds := [], alts := [], laidByText := true, laidKinds := [.data, .data, .widerDeep, .widerDeep, .data, .data, .data, .data, .data, .sentinel, .sentinel, .pinned, .pinned], laidTests := true, laidLooks := .later }
def NumberOrderUptoCardSaid : Prop := Claim7.holds Tryz.pinned (.plain (OpenSpec.upto numberOrderSpec)) numberOrderUptoCard

/-- THE SECOND FORM's CARD OF 'guiselaw6.NumberTexts'. -/
def numberTextsUptoCard : Claim7 := { stood := { row := numberTextsUptoRow, standIns := [], harness := (true, "56ad8e3283970cf84e8f495d2f1def0377df54ad18073ab1af1dfd0530677b65"), looks := true }, kinds := [], alts := [], laidByText := true, laidKinds := [.data, .data, .widerDeep, .widerDeep, .data, .data, .data, .data, .data, .sentinel, .sentinel, .pinned, .pinned], laidTests := true, laidLooks := .later }
def NumberTextsUptoCardSaid : Prop := Claim7.holds Tryz.pinned (.plain (OpenSpec.upto numberTextsSpec)) numberTextsUptoCard

/-- THE SECOND FORM's CARD OF 'guiselaw6.NumberBack'. -/
def numberBackUptoCard : Claim7 := { stood := { row := numberBackUptoRow, standIns := [], harness := (true, "56ad8e3283970cf84e8f495d2f1def0377df54ad18073ab1af1dfd0530677b65"), looks := true }, kinds := [], alts := [], laidByText := true, laidKinds := [.data, .data, .widerDeep, .widerDeep, .data, .data, .data, .data, .data, .sentinel, .sentinel, .pinned, .pinned], laidTests := true, laidLooks := .later }
def NumberBackUptoCardSaid : Prop := Claim7.holds Tryz.pinned (.plain (OpenSpec.upto numberBackSpec)) numberBackUptoCard
end Rows
end Go.Proofs.YtehakhplglhkdaaGreatDoor
