/-
  DERIVED. GIVEN WITH THE SEED: THE CARDS: each row of YtcalmojhdpagoaaDoorRows.lean that lists a variable, with what it lists TIED to the program's text (the seventh form; the later family's looks); each row that meets fmt, with fmt's text TOLD by the authors' own Lean function (tested against real Go, not proved from fmt's source: count such statements apart). THE CARD IS WHAT COUNTS. Prove the row's statement (the work); the ties are given (YtcalmojhdpagoaaDoorTie.lean); close each card by the builder's one call (the guide's Derived/Test/ToyasCard.lean, 'card_holds'). Laid BY PROGRAM, IN A SANDBOX (cutbox-door.mjs). By AI agents, Wed Nov 11 2026. No macro, syntax, notation, axiom, sorry.
-/
import Derived.Test.YtcalmojhdpagoaaDoorRows
import GoSem.ClaimSeven
namespace Go.Proofs.YtcalmojhdpagoaaDoor
namespace Rows

/-- THE TIED CARD OF 'guiselaw17.TraceDiffers'. -/
def traceDiffersCard : Claim7 := { stood := { row := traceDiffersRow, standIns := [], harness := (true, "d3b8ca58f72c55e8508d706f07a2d42c636fba227cd9fcc63d1ba6237c65d530"), looks := false }, kinds := [], alts := [], laidByText := true, laidKinds := [.data, .data, .data], laidTests := true, laidLooks := .later }
def TraceDiffersCardSaid : Prop := Claim7.holds Tryd.pinned (.plain (OpenSpec.ofChange traceDiffersSpec)) traceDiffersCard

/-- THE TIED CARD OF 'guiselaw17.TraceLines'. -/
def traceLinesCard : Claim7 := { stood := { row := traceLinesRow, standIns := [], harness := (true, "d3b8ca58f72c55e8508d706f07a2d42c636fba227cd9fcc63d1ba6237c65d530"), looks := false }, kinds := [], alts := [], laidByText := true, laidKinds := [.data, .data, .data], laidTests := true, laidLooks := .later }
def TraceLinesCardSaid : Prop := Claim7.holds Tryd.pinned (.plain (OpenSpec.ofChange traceLinesSpec)) traceLinesCard

/-- THE TIED CARD OF 'guiselaw17.TraceCalls'. -/
def traceCallsCard : Claim7 := { stood := { row := traceCallsRow, standIns := [], harness := (true, "d3b8ca58f72c55e8508d706f07a2d42c636fba227cd9fcc63d1ba6237c65d530"), looks := false }, kinds := [], alts := [], laidByText := true, laidKinds := [.data, .data, .data], laidTests := true, laidLooks := .later }
def TraceCallsCardSaid : Prop := Claim7.holds Tryd.pinned (.plain (OpenSpec.ofChange traceCallsSpec)) traceCallsCard

/-- THE TIED CARD OF 'guiselaw17.TraceSums'. -/
def traceSumsCard : Claim7 := { stood := { row := traceSumsRow, standIns := [], harness := (true, "d3b8ca58f72c55e8508d706f07a2d42c636fba227cd9fcc63d1ba6237c65d530"), looks := false }, kinds := [], alts := [], laidByText := true, laidKinds := [.data, .data, .data], laidTests := true, laidLooks := .later }
def TraceSumsCardSaid : Prop := Claim7.holds Tryd.pinned (.plain (OpenSpec.ofChange traceSumsSpec)) traceSumsCard

/-- THE SECOND FORM's CARD OF 'guiselaw17.TraceDiffers'. -/
def traceDiffersUptoCard : Claim7 := { stood := { row := traceDiffersUptoRow, standIns := [], harness := (true, "d3b8ca58f72c55e8508d706f07a2d42c636fba227cd9fcc63d1ba6237c65d530"), looks := false }, kinds := [], alts := [], laidByText := true, laidKinds := [.data, .data, .data], laidTests := true, laidLooks := .later }
def TraceDiffersUptoCardSaid : Prop := Claim7.holds Tryd.pinned (.plain (OpenSpec.upto traceDiffersSpec)) traceDiffersUptoCard

/-- THE SECOND FORM's CARD OF 'guiselaw17.TraceLines'. -/
def traceLinesUptoCard : Claim7 := { stood := { row := traceLinesUptoRow, standIns := [], harness := (true, "d3b8ca58f72c55e8508d706f07a2d42c636fba227cd9fcc63d1ba6237c65d530"), looks := false }, kinds := [], alts := [], laidByText := true, laidKinds := [.data, .data, .data], laidTests := true, laidLooks := .later }
def TraceLinesUptoCardSaid : Prop := Claim7.holds Tryd.pinned (.plain (OpenSpec.upto traceLinesSpec)) traceLinesUptoCard

/-- THE SECOND FORM's CARD OF 'guiselaw17.TraceCalls'. -/
def traceCallsUptoCard : Claim7 := { stood := { row := traceCallsUptoRow, standIns := [], harness := (true, "d3b8ca58f72c55e8508d706f07a2d42c636fba227cd9fcc63d1ba6237c65d530"), looks := false }, kinds := [], alts := [], laidByText := true, laidKinds := [.data, .data, .data], laidTests := true, laidLooks := .later }
def TraceCallsUptoCardSaid : Prop := Claim7.holds Tryd.pinned (.plain (OpenSpec.upto traceCallsSpec)) traceCallsUptoCard

/-- THE SECOND FORM's CARD OF 'guiselaw17.TraceSums'. -/
def traceSumsUptoCard : Claim7 := { stood := { row := traceSumsUptoRow, standIns := [], harness := (true, "d3b8ca58f72c55e8508d706f07a2d42c636fba227cd9fcc63d1ba6237c65d530"), looks := false }, kinds := [], alts := [], laidByText := true, laidKinds := [.data, .data, .data], laidTests := true, laidLooks := .later }
def TraceSumsUptoCardSaid : Prop := Claim7.holds Tryd.pinned (.plain (OpenSpec.upto traceSumsSpec)) traceSumsUptoCard
end Rows
end Go.Proofs.YtcalmojhdpagoaaDoor
