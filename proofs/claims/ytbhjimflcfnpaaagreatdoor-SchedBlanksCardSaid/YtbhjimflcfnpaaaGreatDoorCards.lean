/-
  DERIVED. GIVEN WITH THE SEED: THE CARDS: each row of YtbhjimflcfnpaaaGreatDoorRows.lean that lists a variable, with what it lists TIED to the program's text (the seventh form; the later family's looks); each row that meets fmt, with fmt's text TOLD by the authors' own Lean function (tested against real Go, not proved from fmt's source: count such statements apart). THE CARD IS WHAT COUNTS. Prove the row's statement (the work); the ties are given (YtbhjimflcfnpaaaGreatDoorTie.lean); close each card by the builder's one call (the guide's Derived/Test/ToyasCard.lean, 'card_holds'). Laid BY PROGRAM, IN A SANDBOX (cutbox-door.mjs). By AI agents, Wed Nov 11 2026. No macro, syntax, notation, axiom, sorry.
-/
import Derived.Test.YtbhjimflcfnpaaaGreatDoorRows
import GoSem.ClaimSeven
namespace Go.Proofs.YtbhjimflcfnpaaaGreatDoor
namespace Rows

/-- THE TIED CARD OF 'caravellaw21.SchedBlanks'. -/
def schedBlanksCard : Claim7 := { stood := { row := schedBlanksRow, standIns := [], harness := (true, "dda34d79712180ea3bc48905345507ad1562513cd6fd9382ec74165ffa23b5cf"), looks := true }, kinds := [], alts := [], laidByText := true, laidKinds := [.data, .data, .data, .data, .sentinel, .sentinel, .pinned, .pinned, .pinned, .pinned, .pinned, .pinned], laidTests := true, laidLooks := .later }
def SchedBlanksCardSaid : Prop := Claim7.holds Tryz.pinned (.plain (OpenSpec.ofChange schedBlanksSpec)) schedBlanksCard

/-- THE TIED CARD OF 'caravellaw21.SchedParses'. -/
def schedParsesCard : Claim7 := { stood := { row := schedParsesRow, standIns := [], harness := (true, "dda34d79712180ea3bc48905345507ad1562513cd6fd9382ec74165ffa23b5cf"), looks := true }, kinds := [], alts := [], laidByText := true, laidKinds := [.data, .data, .data, .data, .sentinel, .sentinel, .pinned, .pinned, .pinned, .pinned, .pinned, .pinned], laidTests := true, laidLooks := .later }
def SchedParsesCardSaid : Prop := Claim7.holds Tryz.pinned (.plain (OpenSpec.ofChange schedParsesSpec)) schedParsesCard

/-- THE TIED CARD OF 'caravellaw21.SchedRight'. -/
def schedRightCard : Claim7 := { stood := { row := schedRightRow, standIns := [], harness := (true, "dda34d79712180ea3bc48905345507ad1562513cd6fd9382ec74165ffa23b5cf"), looks := true }, kinds := [], alts := [], laidByText := true, laidKinds := [.data, .data, .data, .data, .sentinel, .sentinel, .pinned, .pinned, .pinned, .pinned, .pinned, .pinned], laidTests := true, laidLooks := .later }
def SchedRightCardSaid : Prop := Claim7.holds Tryz.pinned (.plain (OpenSpec.ofChange schedRightSpec)) schedRightCard

/-- THE SECOND FORM's CARD OF 'caravellaw21.SchedBlanks'. -/
def schedBlanksUptoCard : Claim7 := { stood := { row := schedBlanksUptoRow, standIns := [], harness := (true, "dda34d79712180ea3bc48905345507ad1562513cd6fd9382ec74165ffa23b5cf"), looks := true }, kinds := [], alts := [], laidByText := true, laidKinds := [.data, .data, .data, .data, .sentinel, .sentinel, .pinned, .pinned, .pinned, .pinned, .pinned, .pinned], laidTests := true, laidLooks := .later }
def SchedBlanksUptoCardSaid : Prop := Claim7.holds Tryz.pinned (.plain (OpenSpec.upto schedBlanksSpec)) schedBlanksUptoCard

/-- THE SECOND FORM's CARD OF 'caravellaw21.SchedParses'. -/
def schedParsesUptoCard : Claim7 := { stood := { row := schedParsesUptoRow, standIns := [], harness := (true, "dda34d79712180ea3bc48905345507ad1562513cd6fd9382ec74165ffa23b5cf"), looks := true }, kinds := [], alts := [], laidByText := true, laidKinds := [.data, .data, .data, .data, .sentinel, .sentinel, .pinned, .pinned, .pinned, .pinned, .pinned, .pinned], laidTests := true, laidLooks := .later }
def SchedParsesUptoCardSaid : Prop := Claim7.holds Tryz.pinned (.plain (OpenSpec.upto schedParsesSpec)) schedParsesUptoCard

/-- THE SECOND FORM's CARD OF 'caravellaw21.SchedRight'. -/
def schedRightUptoCard : Claim7 := { stood := { row := schedRightUptoRow, standIns := [], harness := (true, "dda34d79712180ea3bc48905345507ad1562513cd6fd9382ec74165ffa23b5cf"), looks := true }, kinds := [], alts := [], laidByText := true, laidKinds := [.data, .data, .data, .data, .sentinel, .sentinel, .pinned, .pinned, .pinned, .pinned, .pinned, .pinned], laidTests := true, laidLooks := .later }
def SchedRightUptoCardSaid : Prop := Claim7.holds Tryz.pinned (.plain (OpenSpec.upto schedRightSpec)) schedRightUptoCard
end Rows
end Go.Proofs.YtbhjimflcfnpaaaGreatDoor
