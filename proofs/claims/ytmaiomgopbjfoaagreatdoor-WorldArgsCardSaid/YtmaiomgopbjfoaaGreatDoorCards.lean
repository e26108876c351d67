/-
  DERIVED. GIVEN WITH THE SEED: THE CARDS: each row of YtmaiomgopbjfoaaGreatDoorRows.lean that lists a variable, with what it lists TIED to the program's text (the seventh form; the later family's looks); each row that meets fmt, with fmt's text TOLD by the authors' own Lean function (tested against real Go, not proved from fmt's source: count such statements apart). THE CARD IS WHAT COUNTS. Prove the row's statement (the work); the ties are given (YtmaiomgopbjfoaaGreatDoorTie.lean); close each card by the builder's one call (the guide's Derived/Test/ToyasCard.lean, 'card_holds'). Laid BY PROGRAM, IN A SANDBOX (cutbox-door.mjs). By AI agents, Wed Nov 11 2026. No macro, syntax, notation, axiom, sorry.
-/
import Derived.Test.YtmaiomgopbjfoaaGreatDoorRows
import GoSem.ClaimSeven
namespace Go.Proofs.YtmaiomgopbjfoaaGreatDoor
namespace Rows

/-- THE TIED CARD OF 'caravellaw25.WorldArgs'. -/
def worldArgsCard : Claim7 := { stood := { row := worldArgsRow, standIns := [], harness := (true, "d2695710c9fcc778c8f599f8941662c066aa7831326002db4160d0a25c53ee17"), looks := true }, kinds := [], alts := [], laidByText := true, laidKinds := [.data, .data, .data, .data, .sentinel, .sentinel, .pinned, .pinned, .pinned, .pinned, .pinned, .pinned], laidTests := true, laidLooks := .later }
def WorldArgsCardSaid : Prop := Claim7.holds Tryz.pinned (.plain (OpenSpec.ofChange worldArgsSpec)) worldArgsCard

/-- THE SECOND FORM's CARD OF 'caravellaw25.WorldArgs'. -/
def worldArgsUptoCard : Claim7 := { stood := { row := worldArgsUptoRow, standIns := [], harness := (true, "d2695710c9fcc778c8f599f8941662c066aa7831326002db4160d0a25c53ee17"), looks := true }, kinds := [], alts := [], laidByText := true, laidKinds := [.data, .data, .data, .data, .sentinel, .sentinel, .pinned, .pinned, .pinned, .pinned, .pinned, .pinned], laidTests := true, laidLooks := .later }
def WorldArgsUptoCardSaid : Prop := Claim7.holds Tryz.pinned (.plain (OpenSpec.upto worldArgsSpec)) worldArgsUptoCard
end Rows
end Go.Proofs.YtmaiomgopbjfoaaGreatDoor
