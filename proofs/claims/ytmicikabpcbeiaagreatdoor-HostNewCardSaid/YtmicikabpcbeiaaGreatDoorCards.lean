/-
  DERIVED. GIVEN WITH THE SEED: THE CARDS: each row of YtmicikabpcbeiaaGreatDoorRows.lean that lists a variable, with what it lists TIED to the program's text (the seventh form; the later family's looks); each row that meets fmt, with fmt's text TOLD by the authors' own Lean function (tested against real Go, not proved from fmt's source: count such statements apart). THE CARD IS WHAT COUNTS. Prove the row's statement (the work); the ties are given (YtmicikabpcbeiaaGreatDoorTie.lean); close each card by the builder's one call (the guide's Derived/Test/ToyasCard.lean, 'card_holds'). Laid BY PROGRAM, IN A SANDBOX (cutbox-door.mjs). By AI agents, Wed Nov 11 2026. No macro, syntax, notation, axiom, sorry.
-/
import Derived.Test.YtmicikabpcbeiaaGreatDoorRows
import GoSem.ClaimSeven
namespace Go.Proofs.YtmicikabpcbeiaaGreatDoor
namespace Rows

/-- THE TIED CARD OF 'caravellaw22.HostNew'. -/
def hostNewCard : Claim7 := { stood := { row := hostNewRow, standIns := [], harness := (true, "3767c6392538a6568951339a0ac7ffee788ec03c1505507fbacd7e4ac407f318"), looks := true }, kinds := [], alts := [], laidByText := true, laidKinds := [.data, .data, .data, .data, .sentinel, .sentinel, .pinned, .pinned, .pinned, .pinned, .pinned, .pinned], laidTests := true, laidLooks := .later }
def HostNewCardSaid : Prop := Claim7.holds Tryz.pinned (.plain (OpenSpec.ofChange hostNewSpec)) hostNewCard

/-- THE SECOND FORM's CARD OF 'caravellaw22.HostNew'. -/
def hostNewUptoCard : Claim7 := { stood := { row := hostNewUptoRow, standIns := [], harness := (true, "3767c6392538a6568951339a0ac7ffee788ec03c1505507fbacd7e4ac407f318"), looks := true }, kinds := [], alts := [], laidByText := true, laidKinds := [.data, .data, .data, .data, .sentinel, .sentinel, .pinned, .pinned, .pinned, .pinned, .pinned, .pinned], laidTests := true, laidLooks := .later }
def HostNewUptoCardSaid : Prop := Claim7.holds Tryz.pinned (.plain (OpenSpec.upto hostNewSpec)) hostNewUptoCard
end Rows
end Go.Proofs.YtmicikabpcbeiaaGreatDoor
