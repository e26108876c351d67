/-
  No cell of these rows narrows 'for every input' (looked for: loops, veiled, ifaces, maps, wideKeys, modest, calm, conditions, laid).
  DERIVED. THE GIVEN ROWS OF THIS SEAT. 8 by the template 'for every input the law returns true; each argument reads behind the call as it read before'; 0 by the template 'total and deterministic' (their statements: YtkjodjaamjnejaaTotals.lean).
  GIVEN WITH THE SEED: the statements are not yours to turn. If you find one false, say at which input.
  Laid BY PROGRAM, IN A SANDBOX (cutbox-rows.mjs): the forced cells as the released guide's own fill.sh prints them over the translation 909d7bc5cf35574c… (all of the seat's roots in one cut). By AI agents, Wed Nov 11 2026. No macro, syntax, notation, axiom, sorry.
-/
import Derived.Test.YtkjodjaamjnejaaChecked
import GoSem.Claim
import GoSem.ClaimJoined
import GoSem.ClaimMapViews
import Derived.JoinedTies
import Derived.KernelRfl
namespace Go.Proofs.Ytkjodjaamjnejaa
/- THE CELL 'sum', in the pinned program and in every row, IS THE sha256 OF THE DUMP (.gsa) THAT YtkjodjaamjnejaaProg.lean LOADS. Nothing in Lean hashes anything: it is a label: what it is worth is what the hold of that sum in a sandbox is worth. -/
noncomputable def Try.pinned : Pinned := { name := "ytkjodjaamjnejaa", sum := "909d7bc5cf35574cf35d4e3442c1d3f6a2cdcdab98b75d55872d1a67e31e1a08", checked := Try.checked }
namespace Rows
def none {H : Type} : Left H := { results := [], args := [] }

/-- 'caravellaw19.TcbQuiet': WHATEVER THE INPUT: true; the input reads as it did. -/
def tcbQuietSpec : ChangeSpec := { name := "tcbQuiet", fn := fun _ => fun
  | [d1, d2] => { results := [.lit (.bool true)], args := [d1, d2] }
  | _ => none }
def tcbQuietRow : OpenClaim := { program := "ytkjodjaamjnejaa", sum := "909d7bc5cf35574cf35d4e3442c1d3f6a2cdcdab98b75d55872d1a67e31e1a08", func := "caravel/caravellaw19.TcbQuiet", spec := "tcbQuiet", unfollowed := true, recurses := true, apart := false }
def TcbQuietSaid : Prop := tcbQuietRow.holds Try.pinned (OpenSpec.ofChange tcbQuietSpec)

/-- ITS FALSE NEIGHBOUR: 'it returns false'. Refute it at one input. -/
def tcbQuietWrong : ChangeSpec := { name := "tcbQuiet", fn := fun _ => fun
  | [d1, d2] => { results := [.lit (.bool false)], args := [d1, d2] }
  | _ => none }
def TcbQuietWrongFalsely : Prop := tcbQuietRow.holds Try.pinned (OpenSpec.ofChange tcbQuietWrong)

/-- 'caravellaw19.TcbTalks': WHATEVER THE INPUT: true; the input reads as it did. -/
def tcbTalksSpec : ChangeSpec := { name := "tcbTalks", fn := fun _ => fun
  | [d1, d2] => { results := [.lit (.bool true)], args := [d1, d2] }
  | _ => none }
def tcbTalksRow : OpenClaim := { program := "ytkjodjaamjnejaa", sum := "909d7bc5cf35574cf35d4e3442c1d3f6a2cdcdab98b75d55872d1a67e31e1a08", func := "caravel/caravellaw19.TcbTalks", spec := "tcbTalks", unfollowed := true, recurses := true, apart := false }
def TcbTalksSaid : Prop := tcbTalksRow.holds Try.pinned (OpenSpec.ofChange tcbTalksSpec)

/-- ITS FALSE NEIGHBOUR: 'it returns false'. Refute it at one input. -/
def tcbTalksWrong : ChangeSpec := { name := "tcbTalks", fn := fun _ => fun
  | [d1, d2] => { results := [.lit (.bool false)], args := [d1, d2] }
  | _ => none }
def TcbTalksWrongFalsely : Prop := tcbTalksRow.holds Try.pinned (OpenSpec.ofChange tcbTalksWrong)

/-- 'caravellaw19.TcbEnds': WHATEVER THE INPUT: true; the input reads as it did. -/
def tcbEndsSpec : ChangeSpec := { name := "tcbEnds", fn := fun _ => fun
  | [d1, d2] => { results := [.lit (.bool true)], args := [d1, d2] }
  | _ => none }
def tcbEndsRow : OpenClaim := { program := "ytkjodjaamjnejaa", sum := "909d7bc5cf35574cf35d4e3442c1d3f6a2cdcdab98b75d55872d1a67e31e1a08", func := "caravel/caravellaw19.TcbEnds", spec := "tcbEnds", unfollowed := true, recurses := true, apart := false }
def TcbEndsSaid : Prop := tcbEndsRow.holds Try.pinned (OpenSpec.ofChange tcbEndsSpec)

/-- ITS FALSE NEIGHBOUR: 'it returns false'. Refute it at one input. -/
def tcbEndsWrong : ChangeSpec := { name := "tcbEnds", fn := fun _ => fun
  | [d1, d2] => { results := [.lit (.bool false)], args := [d1, d2] }
  | _ => none }
def TcbEndsWrongFalsely : Prop := tcbEndsRow.holds Try.pinned (OpenSpec.ofChange tcbEndsWrong)

/-- 'caravellaw19.TcbMoved': WHATEVER THE INPUT: true; the input reads as it did. -/
def tcbMovedSpec : ChangeSpec := { name := "tcbMoved", fn := fun _ => fun
  | [d1, d2, d3] => { results := [.lit (.bool true)], args := [d1, d2, d3] }
  | _ => none }
def tcbMovedRow : OpenClaim := { program := "ytkjodjaamjnejaa", sum := "909d7bc5cf35574cf35d4e3442c1d3f6a2cdcdab98b75d55872d1a67e31e1a08", func := "caravel/caravellaw19.TcbMoved", spec := "tcbMoved", unfollowed := true, recurses := true, apart := false }
def TcbMovedSaid : Prop := tcbMovedRow.holds Try.pinned (OpenSpec.ofChange tcbMovedSpec)

/-- ITS FALSE NEIGHBOUR: 'it returns false'. Refute it at one input. -/
def tcbMovedWrong : ChangeSpec := { name := "tcbMoved", fn := fun _ => fun
  | [d1, d2, d3] => { results := [.lit (.bool false)], args := [d1, d2, d3] }
  | _ => none }
def TcbMovedWrongFalsely : Prop := tcbMovedRow.holds Try.pinned (OpenSpec.ofChange tcbMovedWrong)

/-- 'caravellaw19.TcbAny': WHATEVER THE INPUT: true; the input reads as it did. -/
def tcbAnySpec : ChangeSpec := { name := "tcbAny", fn := fun _ => fun
  | [d1, d2, d3] => { results := [.lit (.bool true)], args := [d1, d2, d3] }
  | _ => none }
def tcbAnyRow : OpenClaim := { program := "ytkjodjaamjnejaa", sum := "909d7bc5cf35574cf35d4e3442c1d3f6a2cdcdab98b75d55872d1a67e31e1a08", func := "caravel/caravellaw19.TcbAny", spec := "tcbAny", unfollowed := true, recurses := true, apart := false }
def TcbAnySaid : Prop := tcbAnyRow.holds Try.pinned (OpenSpec.ofChange tcbAnySpec)

/-- ITS FALSE NEIGHBOUR: 'it returns false'. Refute it at one input. -/
def tcbAnyWrong : ChangeSpec := { name := "tcbAny", fn := fun _ => fun
  | [d1, d2, d3] => { results := [.lit (.bool false)], args := [d1, d2, d3] }
  | _ => none }
def TcbAnyWrongFalsely : Prop := tcbAnyRow.holds Try.pinned (OpenSpec.ofChange tcbAnyWrong)

/-- 'caravellaw19.TcbResets': WHATEVER THE INPUT: true; the input reads as it did. -/
def tcbResetsSpec : ChangeSpec := { name := "tcbResets", fn := fun _ => fun
  | [d1, d2, d3] => { results := [.lit (.bool true)], args := [d1, d2, d3] }
  | _ => none }
def tcbResetsRow : OpenClaim := { program := "ytkjodjaamjnejaa", sum := "909d7bc5cf35574cf35d4e3442c1d3f6a2cdcdab98b75d55872d1a67e31e1a08", func := "caravel/caravellaw19.TcbResets", spec := "tcbResets", unfollowed := true, recurses := true, apart := false }
def TcbResetsSaid : Prop := tcbResetsRow.holds Try.pinned (OpenSpec.ofChange tcbResetsSpec)

/-- ITS FALSE NEIGHBOUR: 'it returns false'. Refute it at one input. -/
def tcbResetsWrong : ChangeSpec := { name := "tcbResets", fn := fun _ => fun
  | [d1, d2, d3] => { results := [.lit (.bool false)], args := [d1, d2, d3] }
  | _ => none }
def TcbResetsWrongFalsely : Prop := tcbResetsRow.holds Try.pinned (OpenSpec.ofChange tcbResetsWrong)

/-- 'caravellaw19.TcbWindow': WHATEVER THE INPUT: true; the input reads as it did. -/
def tcbWindowSpec : ChangeSpec := { name := "tcbWindow", fn := fun _ => fun
  | [d1, d2] => { results := [.lit (.bool true)], args := [d1, d2] }
  | _ => none }
def tcbWindowRow : OpenClaim := { program := "ytkjodjaamjnejaa", sum := "909d7bc5cf35574cf35d4e3442c1d3f6a2cdcdab98b75d55872d1a67e31e1a08", func := "caravel/caravellaw19.TcbWindow", spec := "tcbWindow", unfollowed := true, recurses := true, apart := false }
def TcbWindowSaid : Prop := tcbWindowRow.holds Try.pinned (OpenSpec.ofChange tcbWindowSpec)

/-- ITS FALSE NEIGHBOUR: 'it returns false'. Refute it at one input. -/
def tcbWindowWrong : ChangeSpec := { name := "tcbWindow", fn := fun _ => fun
  | [d1, d2] => { results := [.lit (.bool false)], args := [d1, d2] }
  | _ => none }
def TcbWindowWrongFalsely : Prop := tcbWindowRow.holds Try.pinned (OpenSpec.ofChange tcbWindowWrong)

/-- 'caravellaw19.TcbShut': WHATEVER THE INPUT: true; the input reads as it did. -/
def tcbShutSpec : ChangeSpec := { name := "tcbShut", fn := fun _ => fun
  | [d1, d2, d3] => { results := [.lit (.bool true)], args := [d1, d2, d3] }
  | _ => none }
def tcbShutRow : OpenClaim := { program := "ytkjodjaamjnejaa", sum := "909d7bc5cf35574cf35d4e3442c1d3f6a2cdcdab98b75d55872d1a67e31e1a08", func := "caravel/caravellaw19.TcbShut", spec := "tcbShut", unfollowed := true, recurses := true, apart := false }
def TcbShutSaid : Prop := tcbShutRow.holds Try.pinned (OpenSpec.ofChange tcbShutSpec)

/-- ITS FALSE NEIGHBOUR: 'it returns false'. Refute it at one input. -/
def tcbShutWrong : ChangeSpec := { name := "tcbShut", fn := fun _ => fun
  | [d1, d2, d3] => { results := [.lit (.bool false)], args := [d1, d2, d3] }
  | _ => none }
def TcbShutWrongFalsely : Prop := tcbShutRow.holds Try.pinned (OpenSpec.ofChange tcbShutWrong)

/- THE SECOND FORM. 'bulk': how many values and letters a reading holds, each counted each time it is reached (what is shared counts as often as it is met; a slice's spare places count too). A statement '..UptoSaid' is the law's where the arguments, and the package variables that the reading takes, are together of bulk at most 1048576: NARROWER than '..Said'. Prove '..Said' where nothing that the law and all that it calls make is longer than what came in: it says more and counts as full. Else prove '..UptoSaid'. A law counts once. -/
mutual
def uptoBulk {H : Type} : DataW H → Nat
  | .lit (.string bytes) => bytes.length + 1
  | .lit _ => 1
  | .nil => 1
  | .ptr d => uptoBulk d + 1
  | .slice elems spare => uptoBulkAll elems + uptoBulkAll spare + 1
  | .agg parts => uptoBulkAll parts + 1
  | .iface _ d => uptoBulk d + 1
  | .map entries => uptoBulkEntries entries + 1
  | .held _ => 1
def uptoBulkAll {H : Type} : List (DataW H) → Nat
  | [] => 0
  | d :: r => uptoBulk d + uptoBulkAll r
def uptoBulkEntries {H : Type} : List (Lit × DataW H) → Nat
  | [] => 0
  | x :: r => uptoBulkEntry x + uptoBulkEntries r
def uptoBulkEntry {H : Type} : Lit × DataW H → Nat
  | (.string bytes, d) => bytes.length + uptoBulk d + 1
  | (_, d) => uptoBulk d + 1
 end
def uptoSmall : (H : Type) → List (DataW H) → Bool := fun _ ds => decide (uptoBulkAll ds ≤ 1048576)
def OpenSpec.upto (s : _root_.Go.ChangeSpec) : _root_.Go.OpenSpec := { _root_.Go.OpenSpec.ofChange s with cond := some uptoSmall }

/-- 'caravellaw19.TcbQuiet', WHERE WHAT IT READS IS OF BULK AT MOST 1048576: true; the input reads as it did. -/
def tcbQuietUptoRow : OpenClaim := { program := "ytkjodjaamjnejaa", sum := "909d7bc5cf35574cf35d4e3442c1d3f6a2cdcdab98b75d55872d1a67e31e1a08", func := "caravel/caravellaw19.TcbQuiet", spec := "tcbQuiet", unfollowed := true, recurses := true, apart := false, narrowed := true }
def TcbQuietUptoSaid : Prop := tcbQuietUptoRow.holds Try.pinned (OpenSpec.upto tcbQuietSpec)

/-- 'caravellaw19.TcbTalks', WHERE WHAT IT READS IS OF BULK AT MOST 1048576: true; the input reads as it did. -/
def tcbTalksUptoRow : OpenClaim := { program := "ytkjodjaamjnejaa", sum := "909d7bc5cf35574cf35d4e3442c1d3f6a2cdcdab98b75d55872d1a67e31e1a08", func := "caravel/caravellaw19.TcbTalks", spec := "tcbTalks", unfollowed := true, recurses := true, apart := false, narrowed := true }
def TcbTalksUptoSaid : Prop := tcbTalksUptoRow.holds Try.pinned (OpenSpec.upto tcbTalksSpec)

/-- 'caravellaw19.TcbEnds', WHERE WHAT IT READS IS OF BULK AT MOST 1048576: true; the input reads as it did. -/
def tcbEndsUptoRow : OpenClaim := { program := "ytkjodjaamjnejaa", sum := "909d7bc5cf35574cf35d4e3442c1d3f6a2cdcdab98b75d55872d1a67e31e1a08", func := "caravel/caravellaw19.TcbEnds", spec := "tcbEnds", unfollowed := true, recurses := true, apart := false, narrowed := true }
def TcbEndsUptoSaid : Prop := tcbEndsUptoRow.holds Try.pinned (OpenSpec.upto tcbEndsSpec)

/-- 'caravellaw19.TcbMoved', WHERE WHAT IT READS IS OF BULK AT MOST 1048576: true; the input reads as it did. -/
def tcbMovedUptoRow : OpenClaim := { program := "ytkjodjaamjnejaa", sum := "909d7bc5cf35574cf35d4e3442c1d3f6a2cdcdab98b75d55872d1a67e31e1a08", func := "caravel/caravellaw19.TcbMoved", spec := "tcbMoved", unfollowed := true, recurses := true, apart := false, narrowed := true }
def TcbMovedUptoSaid : Prop := tcbMovedUptoRow.holds Try.pinned (OpenSpec.upto tcbMovedSpec)

/-- 'caravellaw19.TcbAny', WHERE WHAT IT READS IS OF BULK AT MOST 1048576: true; the input reads as it did. -/
def tcbAnyUptoRow : OpenClaim := { program := "ytkjodjaamjnejaa", sum := "909d7bc5cf35574cf35d4e3442c1d3f6a2cdcdab98b75d55872d1a67e31e1a08", func := "caravel/caravellaw19.TcbAny", spec := "tcbAny", unfollowed := true, recurses := true, apart := false, narrowed := true }
def TcbAnyUptoSaid : Prop := tcbAnyUptoRow.holds Try.pinned (OpenSpec.upto tcbAnySpec)

/-- 'caravellaw19.TcbResets', WHERE WHAT IT READS IS OF BULK AT MOST 1048576: true; the input reads as it did. -/
def tcbResetsUptoRow : OpenClaim := { program := "ytkjodjaamjnejaa", sum := "909d7bc5cf35574cf35d4e3442c1d3f6a2cdcdab98b75d55872d1a67e31e1a08", func := "caravel/caravellaw19.TcbResets", spec := "tcbResets", unfollowed := true, recurses := true, apart := false, narrowed := true }
def TcbResetsUptoSaid : Prop := tcbResetsUptoRow.holds Try.pinned (OpenSpec.upto tcbResetsSpec)

/-- 'caravellaw19.TcbWindow', WHERE WHAT IT READS IS OF BULK AT MOST 1048576: true; the input reads as it did. -/
def tcbWindowUptoRow : OpenClaim := { program := "ytkjodjaamjnejaa", sum := "909d7bc5cf35574cf35d4e3442c1d3f6a2cdcdab98b75d55872d1a67e31e1a08", func := "caravel/caravellaw19.TcbWindow", spec := "tcbWindow", unfollowed := true, recurses := true, apart := false, narrowed := true }
def TcbWindowUptoSaid : Prop := tcbWindowUptoRow.holds Try.pinned (OpenSpec.upto tcbWindowSpec)

/-- 'caravellaw19.TcbShut', WHERE WHAT IT READS IS OF BULK AT MOST 1048576: true; the input reads as it did. -/
def tcbShutUptoRow : OpenClaim := { program := "ytkjodjaamjnejaa", sum := "909d7bc5cf35574cf35d4e3442c1d3f6a2cdcdab98b75d55872d1a67e31e1a08", func := "caravel/caravellaw19.TcbShut", spec := "tcbShut", unfollowed := true, recurses := true, apart := false, narrowed := true }
def TcbShutUptoSaid : Prop := tcbShutUptoRow.holds Try.pinned (OpenSpec.upto tcbShutSpec)

end Rows
end Go.Proofs.Ytkjodjaamjnejaa
