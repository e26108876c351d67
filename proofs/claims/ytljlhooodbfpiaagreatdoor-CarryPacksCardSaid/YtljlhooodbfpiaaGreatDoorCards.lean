/-
  DERIVED. GIVEN WITH THE SEED: THE CARDS: each row of YtljlhooodbfpiaaGreatDoorRows.lean that lists a variable, with what it lists TIED to the program's text (the seventh form; the later family's looks); each row that meets fmt, with fmt's text TOLD by the authors' own Lean function (tested against real Go, not proved from fmt's source: count such statements apart). THE CARD IS WHAT COUNTS. Prove the row's statement (the work); the ties are given (YtljlhooodbfpiaaGreatDoorTie.lean); close each card by the builder's one call (the guide's Derived/Test/ToyasCard.lean, 'card_holds'). Laid BY PROGRAM, IN A SANDBOX (cutbox-door.mjs). By AI agents, Wed Nov 11 2026. No macro, syntax, notation, axiom, sorry.
-/
import Derived.Test.YtljlhooodbfpiaaGreatDoorRows
import GoSem.ClaimSeven
namespace Go.Proofs.YtljlhooodbfpiaaGreatDoor
namespace Rows

/-- THE TIED CARD OF 'caravellaw24.CarryOld'. -/
def carryOldCard : Claim7 := { stood := { row := carryOldRow, standIns := [], harness := (true, "0484fab217d015d5ecc03058435042edd8628f8f26fba2f255341a2e9a22bba2"), looks := true }, kinds := [], alts := [], laidByText := true, laidKinds := [.data, .data, .data, .data, .sentinel, .sentinel, .pinned], laidTests := true, laidLooks := .later }
def CarryOldCardSaid : Prop := Claim7.holds Tryz.pinned (.plain (OpenSpec.ofChange carryOldSpec)) carryOldCard

/-- THE TIED CARD OF 'caravellaw24.CarryOpens'. -/
def carryOpensCard : Claim7 := { stood := { row := carryOpensRow, standIns := [], harness := (true, "0484fab217d015d5ecc03058435042edd8628f8f26fba2f255341a2e9a22bba2"), looks := true }, kinds := [], alts := [], laidByText := true, laidKinds := [.data, .data, .data, .data, .sentinel, .sentinel, .pinned], laidTests := true, laidLooks := .later }
def CarryOpensCardSaid : Prop := Claim7.holds Tryz.pinned (.plain (OpenSpec.ofChange carryOpensSpec)) carryOpensCard

/-- THE TIED CARD OF 'caravellaw24.CarryPacks'. -/
def carryPacksCard : Claim7 := { stood := { row := carryPacksRow, standIns := [], harness := (true, "0484fab217d015d5ecc03058435042edd8628f8f26fba2f255341a2e9a22bba2"), looks := true }, kinds := [], alts := [], laidByText := true, laidKinds := [.data, .data, .data, .data, .sentinel, .sentinel, .pinned], laidTests := true, laidLooks := .later }
def CarryPacksCardSaid : Prop := Claim7.holds Tryz.pinned (.plain (OpenSpec.ofChange carryPacksSpec)) carryPacksCard

/-- THE SECOND FORM's CARD OF 'caravellaw24.CarryOld'. -/
def carryOldUptoCard : Claim7 := { stood := { row := carryOldUptoRow, standIns := [], harness := (true, "0484fab217d015d5ecc03058435042edd8628f8f26fba2f255341a2e9a22bba2"), looks := true }, kinds := [], alts := [], laidByText := true, laidKinds := [.data, .data, .data, .data, .sentinel, .sentinel, .pinned], laidTests := true, laidLooks := .later }
def CarryOldUptoCardSaid : Prop := Claim7.holds Tryz.pinned (.plain (OpenSpec.upto carryOldSpec)) carryOldUptoCard

/-- THE SECOND FORM's CARD OF 'caravellaw24.CarryOpens'. -/
def carryOpensUptoCard : Claim7 := { stood := { row := carryOpensUptoRow, standIns := [], harness := (true, "0484fab217d015d5ecc03058435042edd8628f8f26fba2f255341a2e9a22bba2"), looks := true }, kinds := [], alts := [], laidByText := true, laidKinds := [.data, .data, .data, .data, .sentinel, .sentinel, .pinned], laidTests := true, laidLooks := .later }
def CarryOpensUptoCardSaid : Prop := Claim7.holds Tryz.pinned (.plain (OpenSpec.upto carryOpensSpec)) carryOpensUptoCard

/-- THE SECOND FORM's CARD OF 'caravellaw24.CarryPacks'. -/
def carryPacksUptoCard : Claim7 := { stood := { row := carryPacksUptoRow, standIns := [], harness := (true, "0484fab217d015d5ecc03058435042edd8628f8f26fba2f255341a2e9a22bba2"), looks := true }, kinds := [], alts := [], laidByText := true, laidKinds := [.data, .data, .data, .data, .sentinel, .sentinel, .pinned], laidTests := true, laidLooks := .later }
def CarryPacksUptoCardSaid : Prop := Claim7.holds Tryz.pinned (.plain (OpenSpec.upto carryPacksSpec)) carryPacksUptoCard
end Rows
end Go.Proofs.YtljlhooodbfpiaaGreatDoor
