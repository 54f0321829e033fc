/-
  DERIVED. GIVEN WITH THE SEED: THE CARDS: each row of YtekokhhgdhikpaaGreatDoorRows.lean that lists a variable, with what it lists TIED to the program's text (the seventh form; the later family's looks); each row that meets fmt, with fmt's text TOLD by the authors' own Lean function (tested against real Go, not proved from fmt's source: count such statements apart). THE CARD IS WHAT COUNTS. Prove the row's statement (the work); the ties are given (YtekokhhgdhikpaaGreatDoorTie.lean); close each card by the builder's one call (the guide's Derived/Test/ToyasCard.lean, 'card_holds'). Laid BY PROGRAM, IN A SANDBOX (cutbox-door.mjs). By AI agents, Wed Nov 11 2026. No macro, syntax, notation, axiom, sorry.
-/
import Derived.Test.YtekokhhgdhikpaaGreatDoorRows
import GoSem.ClaimSeven
namespace Go.Proofs.YtekokhhgdhikpaaGreatDoor
namespace Rows

/-- THE TIED CARD OF 'postroomlaw18.QueryParts'. -/
def queryPartsCard : Claim7 := { stood := { row := queryPartsRow, standIns := [], harness := (true, "0833da5e66f43ac6837b85da646a819cabb32edbdc3fa846fc78aae2767edec4"), looks := true }, kinds := [], alts := [], laidByText := true, laidKinds := [.data, .data, .data, .data, .data, .sentinel, .sentinel, .pinned], laidTests := true, laidLooks := .later }
def QueryPartsCardSaid : Prop := Claim7.holds Tryz.pinned (.plain (OpenSpec.ofChange queryPartsSpec)) queryPartsCard

/-- THE TIED CARD OF 'postroomlaw18.QueryMore'. -/
def queryMoreCard : Claim7 := { stood := { row := queryMoreRow, standIns := [], harness := (true, "0833da5e66f43ac6837b85da646a819cabb32edbdc3fa846fc78aae2767edec4"), looks := true }, kinds := [], alts := [], laidByText := true, laidKinds := [.data, .data, .data, .data, .data, .sentinel, .sentinel, .pinned], laidTests := true, laidLooks := .later }
def QueryMoreCardSaid : Prop := Claim7.holds Tryz.pinned (.plain (OpenSpec.ofChange queryMoreSpec)) queryMoreCard

/-- THE SECOND FORM's CARD OF 'postroomlaw18.QueryParts'. -/
def queryPartsUptoCard : Claim7 := { stood := { row := queryPartsUptoRow, standIns := [], harness := (true, "0833da5e66f43ac6837b85da646a819cabb32edbdc3fa846fc78aae2767edec4"), looks := true }, kinds := [], alts := [], laidByText := true, laidKinds := [.data, .data, .data, .data, .data, .sentinel, .sentinel, .pinned], laidTests := true, laidLooks := .later }
def QueryPartsUptoCardSaid : Prop := Claim7.holds Tryz.pinned (.plain (OpenSpec.upto queryPartsSpec)) queryPartsUptoCard

/-- THE SECOND FORM's CARD OF 'postroomlaw18.QueryMore'. -/
def queryMoreUptoCard : Claim7 := { stood := { row := queryMoreUptoRow, standIns := [], harness := (true, "0833da5e66f43ac6837b85da646a819cabb32edbdc3fa846fc78aae2767edec4"), looks := true }, kinds := [], alts := [], laidByText := true, laidKinds := [.data, .data, .data, .data, .data, .sentinel, .sentinel, .pinned], laidTests := true, laidLooks := .later }
def QueryMoreUptoCardSaid : Prop := Claim7.holds Tryz.pinned (.plain (OpenSpec.upto queryMoreSpec)) queryMoreUptoCard
end Rows
end Go.Proofs.YtekokhhgdhikpaaGreatDoor
