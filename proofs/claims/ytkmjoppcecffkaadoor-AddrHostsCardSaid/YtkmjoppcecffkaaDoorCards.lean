/-
  DERIVED. GIVEN WITH THE SEED: THE CARDS: each row of YtkmjoppcecffkaaDoorRows.lean that lists a variable, with what it lists TIED to the program's text (the seventh form; the later family's looks); each row that meets fmt, with fmt's text TOLD by the authors' own Lean function (tested against real Go, not proved from fmt's source: count such statements apart). THE CARD IS WHAT COUNTS. Prove the row's statement (the work); the ties are given (YtkmjoppcecffkaaDoorTie.lean); close each card by the builder's one call (the guide's Derived/Test/ToyasCard.lean, 'card_holds'). Laid BY PROGRAM, IN A SANDBOX (cutbox-door.mjs). By AI agents, Wed Nov 11 2026. No macro, syntax, notation, axiom, sorry.
-/
import Derived.Test.YtkmjoppcecffkaaDoorRows
import GoSem.ClaimSeven
namespace Go.Proofs.YtkmjoppcecffkaaDoor
namespace Rows

/-- THE TIED CARD OF 'caravellaw04.AddrHosts'. -/
def addrHostsCard : Claim7 := { stood := { row := addrHostsRow, standIns := [], harness := (true, "9a4f71bb392bb0bda030b0ff18e8716fdc7bb4eb5da5e254b1bc82f8731a6615"), looks := false }, kinds := [], alts := [], laidByText := true, laidKinds := [.data, .data, .data, .data, .pinned], laidTests := true, laidLooks := .later }
def AddrHostsCardSaid : Prop := Claim7.holds Tryd.pinned (.plain (OpenSpec.ofChange addrHostsSpec)) addrHostsCard

/-- THE TIED CARD OF 'caravellaw04.AddrWithin'. -/
def addrWithinCard : Claim7 := { stood := { row := addrWithinRow, standIns := [], harness := (true, "9a4f71bb392bb0bda030b0ff18e8716fdc7bb4eb5da5e254b1bc82f8731a6615"), looks := false }, kinds := [], alts := [], laidByText := true, laidKinds := [.data, .data, .data, .data, .pinned], laidTests := true, laidLooks := .later }
def AddrWithinCardSaid : Prop := Claim7.holds Tryd.pinned (.plain (OpenSpec.ofChange addrWithinSpec)) addrWithinCard

/-- THE TIED CARD OF 'caravellaw04.AddrNets'. -/
def addrNetsCard : Claim7 := { stood := { row := addrNetsRow, standIns := [], harness := (true, "9a4f71bb392bb0bda030b0ff18e8716fdc7bb4eb5da5e254b1bc82f8731a6615"), looks := false }, kinds := [], alts := [], laidByText := true, laidKinds := [.data, .data, .data, .data, .pinned], laidTests := true, laidLooks := .later }
def AddrNetsCardSaid : Prop := Claim7.holds Tryd.pinned (.plain (OpenSpec.ofChange addrNetsSpec)) addrNetsCard

/-- THE TIED CARD OF 'caravellaw04.AddrCards'. -/
def addrCardsCard : Claim7 := { stood := { row := addrCardsRow, standIns := [], harness := (true, "9a4f71bb392bb0bda030b0ff18e8716fdc7bb4eb5da5e254b1bc82f8731a6615"), looks := false }, kinds := [], alts := [], laidByText := true, laidKinds := [.data, .data, .data, .data, .pinned], laidTests := true, laidLooks := .later }
def AddrCardsCardSaid : Prop := Claim7.holds Tryd.pinned (.plain (OpenSpec.ofChange addrCardsSpec)) addrCardsCard

/-- THE TIED CARD OF 'caravellaw04.AddrAgain'. -/
def addrAgainCard : Claim7 := { stood := { row := addrAgainRow, standIns := [], harness := (true, "9a4f71bb392bb0bda030b0ff18e8716fdc7bb4eb5da5e254b1bc82f8731a6615"), looks := false }, kinds := [], alts := [], laidByText := true, laidKinds := [.data, .data, .data, .data, .pinned], laidTests := true, laidLooks := .later }
def AddrAgainCardSaid : Prop := Claim7.holds Tryd.pinned (.plain (OpenSpec.ofChange addrAgainSpec)) addrAgainCard

/-- THE TIED CARD OF 'caravellaw04.AddrTexts'. -/
def addrTextsCard : Claim7 := { stood := { row := addrTextsRow, standIns := [], harness := (true, "9a4f71bb392bb0bda030b0ff18e8716fdc7bb4eb5da5e254b1bc82f8731a6615"), looks := false }, kinds := [], alts := [], laidByText := true, laidKinds := [.data, .data, .data, .data, .pinned], laidTests := true, laidLooks := .later }
def AddrTextsCardSaid : Prop := Claim7.holds Tryd.pinned (.plain (OpenSpec.ofChange addrTextsSpec)) addrTextsCard

/-- THE SECOND FORM's CARD OF 'caravellaw04.AddrHosts'. -/
def addrHostsUptoCard : Claim7 := { stood := { row := addrHostsUptoRow, standIns := [], harness := (true, "9a4f71bb392bb0bda030b0ff18e8716fdc7bb4eb5da5e254b1bc82f8731a6615"), looks := false }, kinds := [], alts := [], laidByText := true, laidKinds := [.data, .data, .data, .data, .pinned], laidTests := true, laidLooks := .later }
def AddrHostsUptoCardSaid : Prop := Claim7.holds Tryd.pinned (.plain (OpenSpec.upto addrHostsSpec)) addrHostsUptoCard

/-- THE SECOND FORM's CARD OF 'caravellaw04.AddrWithin'. -/
def addrWithinUptoCard : Claim7 := { stood := { row := addrWithinUptoRow, standIns := [], harness := (true, "9a4f71bb392bb0bda030b0ff18e8716fdc7bb4eb5da5e254b1bc82f8731a6615"), looks := false }, kinds := [], alts := [], laidByText := true, laidKinds := [.data, .data, .data, .data, .pinned], laidTests := true, laidLooks := .later }
def AddrWithinUptoCardSaid : Prop := Claim7.holds Tryd.pinned (.plain (OpenSpec.upto addrWithinSpec)) addrWithinUptoCard

/-- THE SECOND FORM's CARD OF 'caravellaw04.AddrNets'. -/
def addrNetsUptoCard : Claim7 := { stood := { row := addrNetsUptoRow, standIns := [], harness := (true, "9a4f71bb392bb0bda030b0ff18e8716fdc7bb4eb5da5e254b1bc82f8731a6615"), looks := false }, kinds := [], alts := [], laidByText := true, laidKinds := [.data, .data, .data, .data, .pinned], laidTests := true, laidLooks := .later }
def AddrNetsUptoCardSaid : Prop := Claim7.holds Tryd.pinned (.plain (OpenSpec.upto addrNetsSpec)) addrNetsUptoCard

/-- THE SECOND FORM's CARD OF 'caravellaw04.AddrCards'. -/
def addrCardsUptoCard : Claim7 := { stood := { row := addrCardsUptoRow, standIns := [], harness := (true, "9a4f71bb392bb0bda030b0ff18e8716fdc7bb4eb5da5e254b1bc82f8731a6615"), looks := false }, kinds := [], alts := [], laidByText := true, laidKinds := [.data, .data, .data, .data, .pinned], laidTests := true, laidLooks := .later }
def AddrCardsUptoCardSaid : Prop := Claim7.holds Tryd.pinned (.plain (OpenSpec.upto addrCardsSpec)) addrCardsUptoCard

/-- THE SECOND FORM's CARD OF 'caravellaw04.AddrAgain'. -/
def addrAgainUptoCard : Claim7 := { stood := { row := addrAgainUptoRow, standIns := [], harness := (true, "9a4f71bb392bb0bda030b0ff18e8716fdc7bb4eb5da5e254b1bc82f8731a6615"), looks := false }, kinds := [], alts := [], laidByText := true, laidKinds := [.data, .data, .data, .data, .pinned], laidTests := true, laidLooks := .later }
def AddrAgainUptoCardSaid : Prop := Claim7.holds Tryd.pinned (.plain (OpenSpec.upto addrAgainSpec)) addrAgainUptoCard

/-- THE SECOND FORM's CARD OF 'caravellaw04.AddrTexts'. -/
def addrTextsUptoCard : Claim7 := { stood := { row := addrTextsUptoRow, standIns := [], harness := (true, "9a4f71bb392bb0bda030b0ff18e8716fdc7bb4eb5da5e254b1bc82f8731a6615"), looks := false }, kinds := [], alts := [], laidByText := true, laidKinds := [.data, .data, .data, .data, .pinned], laidTests := true, laidLooks := .later }
def AddrTextsUptoCardSaid : Prop := Claim7.holds Tryd.pinned (.plain (OpenSpec.upto addrTextsSpec)) addrTextsUptoCard
end Rows
end Go.Proofs.YtkmjoppcecffkaaDoor
