/-
  No cell of these rows narrows 'for every input' (looked for: loops, veiled, ifaces, maps, wideKeys, modest, calm, conditions, laid).
  DERIVED. THE GIVEN ROWS OF THIS SEAT. 4 by the template 'for every input the law returns true; each argument reads behind the call as it read before'; 0 by the template 'total and deterministic' (their statements: YtlogglgfpeeheaaTotals.lean).
  GIVEN WITH THE SEED: the statements are not yours to turn. If you find one false, say at which input.
  Laid BY PROGRAM, IN A SANDBOX (cutbox-rows.mjs): the forced cells as the released guide's own fill.sh prints them over the translation 7cbe8e8933911350… (all of the seat's roots in one cut). By AI agents, Wed Nov 11 2026. No macro, syntax, notation, axiom, sorry.
-/
import Derived.Test.YtlogglgfpeeheaaChecked
import GoSem.Claim
import GoSem.ClaimJoined
import GoSem.ClaimMapViews
import Derived.JoinedTies
import Derived.KernelRfl
namespace Go.Proofs.Ytlogglgfpeeheaa
/- THE CELL 'sum', in the pinned program and in every row, IS THE sha256 OF THE DUMP (.gsa) THAT YtlogglgfpeeheaaProg.lean LOADS. Nothing in Lean hashes anything: it is a label: what it is worth is what the hold of that sum in a sandbox is worth. -/
noncomputable def Try.pinned : Pinned := { name := "ytlogglgfpeeheaa", sum := "7cbe8e8933911350491b8aff2f7adc4ee08bb61aaaeddb69b28a748bc769ec29", checked := Try.checked }
namespace Rows
def none {H : Type} : Left H := { results := [], args := [] }

/-- 'caravellaw15.RtoSettles': WHATEVER THE INPUT: true; the input reads as it did. -/
def rtoSettlesSpec : ChangeSpec := { name := "rtoSettles", fn := fun _ => fun
  | [d1, d2] => { results := [.lit (.bool true)], args := [d1, d2] }
  | _ => none }
def rtoSettlesRow : OpenClaim := { program := "ytlogglgfpeeheaa", sum := "7cbe8e8933911350491b8aff2f7adc4ee08bb61aaaeddb69b28a748bc769ec29", func := "caravel/caravellaw15.RtoSettles", spec := "rtoSettles", apart := false }
def RtoSettlesSaid : Prop := rtoSettlesRow.holds Try.pinned (OpenSpec.ofChange rtoSettlesSpec)

/-- ITS FALSE NEIGHBOUR: 'it returns false'. Refute it at one input. -/
def rtoSettlesWrong : ChangeSpec := { name := "rtoSettles", fn := fun _ => fun
  | [d1, d2] => { results := [.lit (.bool false)], args := [d1, d2] }
  | _ => none }
def RtoSettlesWrongFalsely : Prop := rtoSettlesRow.holds Try.pinned (OpenSpec.ofChange rtoSettlesWrong)

/-- 'caravellaw15.RtoMeasures': WHATEVER THE INPUT: true; the input reads as it did. -/
def rtoMeasuresSpec : ChangeSpec := { name := "rtoMeasures", fn := fun _ => fun
  | [d1, d2] => { results := [.lit (.bool true)], args := [d1, d2] }
  | _ => none }
def rtoMeasuresRow : OpenClaim := { program := "ytlogglgfpeeheaa", sum := "7cbe8e8933911350491b8aff2f7adc4ee08bb61aaaeddb69b28a748bc769ec29", func := "caravel/caravellaw15.RtoMeasures", spec := "rtoMeasures", apart := false }
def RtoMeasuresSaid : Prop := rtoMeasuresRow.holds Try.pinned (OpenSpec.ofChange rtoMeasuresSpec)

/-- ITS FALSE NEIGHBOUR: 'it returns false'. Refute it at one input. -/
def rtoMeasuresWrong : ChangeSpec := { name := "rtoMeasures", fn := fun _ => fun
  | [d1, d2] => { results := [.lit (.bool false)], args := [d1, d2] }
  | _ => none }
def RtoMeasuresWrongFalsely : Prop := rtoMeasuresRow.holds Try.pinned (OpenSpec.ofChange rtoMeasuresWrong)

/-- 'caravellaw15.RtoRuns': WHATEVER THE INPUT: true; the input reads as it did. -/
def rtoRunsSpec : ChangeSpec := { name := "rtoRuns", fn := fun _ => fun
  | [d1, d2] => { results := [.lit (.bool true)], args := [d1, d2] }
  | _ => none }
def rtoRunsRow : OpenClaim := { program := "ytlogglgfpeeheaa", sum := "7cbe8e8933911350491b8aff2f7adc4ee08bb61aaaeddb69b28a748bc769ec29", func := "caravel/caravellaw15.RtoRuns", spec := "rtoRuns", apart := false }
def RtoRunsSaid : Prop := rtoRunsRow.holds Try.pinned (OpenSpec.ofChange rtoRunsSpec)

/-- ITS FALSE NEIGHBOUR: 'it returns false'. Refute it at one input. -/
def rtoRunsWrong : ChangeSpec := { name := "rtoRuns", fn := fun _ => fun
  | [d1, d2] => { results := [.lit (.bool false)], args := [d1, d2] }
  | _ => none }
def RtoRunsWrongFalsely : Prop := rtoRunsRow.holds Try.pinned (OpenSpec.ofChange rtoRunsWrong)

/-- 'caravellaw15.RtoDoubles': WHATEVER THE INPUT: true; the input reads as it did. -/
def rtoDoublesSpec : ChangeSpec := { name := "rtoDoubles", fn := fun _ => fun
  | [d1, d2] => { results := [.lit (.bool true)], args := [d1, d2] }
  | _ => none }
def rtoDoublesRow : OpenClaim := { program := "ytlogglgfpeeheaa", sum := "7cbe8e8933911350491b8aff2f7adc4ee08bb61aaaeddb69b28a748bc769ec29", func := "caravel/caravellaw15.RtoDoubles", spec := "rtoDoubles", apart := false }
def RtoDoublesSaid : Prop := rtoDoublesRow.holds Try.pinned (OpenSpec.ofChange rtoDoublesSpec)

/-- ITS FALSE NEIGHBOUR: 'it returns false'. Refute it at one input. -/
def rtoDoublesWrong : ChangeSpec := { name := "rtoDoubles", fn := fun _ => fun
  | [d1, d2] => { results := [.lit (.bool false)], args := [d1, d2] }
  | _ => none }
def RtoDoublesWrongFalsely : Prop := rtoDoublesRow.holds Try.pinned (OpenSpec.ofChange rtoDoublesWrong)

/- THE SECOND FORM. 'bulk': how many values and letters a reading holds, each counted each time it is reached (what is shared counts as often as it is met; a slice's spare places count too). A statement '..UptoSaid' is the law's where the arguments, and the package variables that the reading takes, are together of bulk at most 1048576: NARROWER than '..Said'. Prove '..Said' where nothing that the law and all that it calls make is longer than what came in: it says more and counts as full. Else prove '..UptoSaid'. A law counts once. -/
mutual
def uptoBulk {H : Type} : DataW H → Nat
  | .lit (.string bytes) => bytes.length + 1
  | .lit _ => 1
  | .nil => 1
  | .ptr d => uptoBulk d + 1
  | .slice elems spare => uptoBulkAll elems + uptoBulkAll spare + 1
  | .agg parts => uptoBulkAll parts + 1
  | .iface _ d => uptoBulk d + 1
  | .map entries => uptoBulkEntries entries + 1
  | .held _ => 1
def uptoBulkAll {H : Type} : List (DataW H) → Nat
  | [] => 0
  | d :: r => uptoBulk d + uptoBulkAll r
def uptoBulkEntries {H : Type} : List (Lit × DataW H) → Nat
  | [] => 0
  | x :: r => uptoBulkEntry x + uptoBulkEntries r
def uptoBulkEntry {H : Type} : Lit × DataW H → Nat
  | (.string bytes, d) => bytes.length + uptoBulk d + 1
  | (_, d) => uptoBulk d + 1
 end
def uptoSmall : (H : Type) → List (DataW H) → Bool := fun _ ds => decide (uptoBulkAll ds ≤ 1048576)
def OpenSpec.upto (s : _root_.Go.ChangeSpec) : _root_.Go.OpenSpec := { _root_.Go.OpenSpec.ofChange s with cond := some uptoSmall }

/-- 'caravellaw15.RtoSettles', WHERE WHAT IT READS IS OF BULK AT MOST 1048576: true; the input reads as it did. -/
def rtoSettlesUptoRow : OpenClaim := { program := "ytlogglgfpeeheaa", sum := "7cbe8e8933911350491b8aff2f7adc4ee08bb61aaaeddb69b28a748bc769ec29", func := "caravel/caravellaw15.RtoSettles", spec := "rtoSettles", apart := false, narrowed := true }
def RtoSettlesUptoSaid : Prop := rtoSettlesUptoRow.holds Try.pinned (OpenSpec.upto rtoSettlesSpec)

/-- 'caravellaw15.RtoMeasures', WHERE WHAT IT READS IS OF BULK AT MOST 1048576: true; the input reads as it did. -/
def rtoMeasuresUptoRow : OpenClaim := { program := "ytlogglgfpeeheaa", sum := "7cbe8e8933911350491b8aff2f7adc4ee08bb61aaaeddb69b28a748bc769ec29", func := "caravel/caravellaw15.RtoMeasures", spec := "rtoMeasures", apart := false, narrowed := true }
def RtoMeasuresUptoSaid : Prop := rtoMeasuresUptoRow.holds Try.pinned (OpenSpec.upto rtoMeasuresSpec)

/-- 'caravellaw15.RtoRuns', WHERE WHAT IT READS IS OF BULK AT MOST 1048576: true; the input reads as it did. -/
def rtoRunsUptoRow : OpenClaim := { program := "ytlogglgfpeeheaa", sum := "7cbe8e8933911350491b8aff2f7adc4ee08bb61aaaeddb69b28a748bc769ec29", func := "caravel/caravellaw15.RtoRuns", spec := "rtoRuns", apart := false, narrowed := true }
def RtoRunsUptoSaid : Prop := rtoRunsUptoRow.holds Try.pinned (OpenSpec.upto rtoRunsSpec)

/-- 'caravellaw15.RtoDoubles', WHERE WHAT IT READS IS OF BULK AT MOST 1048576: true; the input reads as it did. -/
def rtoDoublesUptoRow : OpenClaim := { program := "ytlogglgfpeeheaa", sum := "7cbe8e8933911350491b8aff2f7adc4ee08bb61aaaeddb69b28a748bc769ec29", func := "caravel/caravellaw15.RtoDoubles", spec := "rtoDoubles", apart := false, narrowed := true }
def RtoDoublesUptoSaid : Prop := rtoDoublesUptoRow.holds Try.pinned (OpenSpec.upto rtoDoublesSpec)

end Rows
end Go.Proofs.Ytlogglgfpeeheaa
