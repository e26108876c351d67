import Derived.Test.YtbhjimflcfnpaaaGreatDoorRows
import Derived.JoinedOf
set_option linter.all false
/-! What is asked of the row's cells: reckoned, one by one. -/
namespace Go.Proofs.YtbhjimflcfnpaaaGreatDoor
open Go
theorem bAnd {a b : Bool} (ha : a = true) (hb : b = true) : (a && b) = true := by rw [ha, hb]; rfl
theorem jf3_1 : (Rows.schedBlanksRow.wf (OpenSpec.ofChange Rows.schedBlanksSpec)) = true := by kernel_rfl
theorem jf3_2 : (laidOutB Tryz.pinned.checked.prog) = true := by kernel_rfl
theorem jf3_3 : (mapsRowed Tryz.pinned.checked.prog) = true := by kernel_rfl
theorem jf3_4 : (Tryz.f3.params.all (fun x => Tryz.pinned.checked.prog.readableRec x)) = true := by kernel_rfl
theorem jf3_5 : (namedTie Tryz.pinned.checked.prog Rows.schedBlanksRow.named Rows.schedBlanksSpec.vars) = true := by kernel_rfl
theorem jf3_6 : ((Rows.schedBlanksRow.stops == [])) = true := by kernel_rfl
theorem jf3_7 : ((Tryz.pinned.checked.prog.stops == [])) = true := by kernel_rfl
theorem jf3_8 : ((Rows.schedBlanksRow.knobs == [])) = true := by kernel_rfl
theorem jf3_9 : ((Tryz.pinned.checked.prog.stopKnobs == [])) = true := by kernel_rfl
theorem jf3_10 : ((Rows.schedBlanksRow.inPlace == Tryz.pinned.checked.prog.inPlace 3)) = true := by kernel_rfl
theorem jf3_11 : ((Rows.schedBlanksRow.unfollowed == Tryz.pinned.checked.prog.unfollowed 3)) = true := by kernel_rfl
theorem jf3_12 : ((Rows.schedBlanksRow.recurses == Tryz.pinned.checked.prog.recurses 3)) = true := by kernel_rfl
theorem jf3_13 : ((Rows.schedBlanksRow.named == Tryz.pinned.checked.prog.varsNamed 3)) = true := by kernel_rfl
theorem jf3_14 : ((Rows.schedBlanksRow.maps == (Tryz.f3.params.toList ++ Rows.schedBlanksSpec.plain.varTypes Tryz.pinned.checked.prog).any (fun x => Tryz.pinned.checked.prog.mapsRec x))) = true := by kernel_rfl
theorem jf3_15 : ((Rows.schedBlanksRow.ifaces == (Tryz.f3.params.toList ++ Rows.schedBlanksSpec.plain.varTypes Tryz.pinned.checked.prog).any (fun x => Tryz.pinned.checked.prog.ifacesRec x))) = true := by kernel_rfl
theorem jf3_16 : ((Rows.schedBlanksRow.mapsOut == Tryz.pinned.checked.prog.mapsAmong Tryz.f3.resultTypes.toList)) = true := by kernel_rfl
theorem jf3_17 : ((Rows.schedBlanksRow.loops == (Tryz.f3.params.toList ++ Rows.schedBlanksSpec.plain.varTypes Tryz.pinned.checked.prog).any (fun x => Tryz.pinned.checked.prog.loopsFrom x))) = true := by kernel_rfl
theorem jf3_18 : ((Rows.schedBlanksRow.wideKeys == (Tryz.f3.params.toList ++ Rows.schedBlanksSpec.plain.varTypes Tryz.pinned.checked.prog ++ Tryz.f3.resultTypes.toList).any (fun x => Tryz.pinned.checked.prog.wideKeysFrom x))) = true := by kernel_rfl
theorem jf3_19 : (Rows.schedBlanksSpec.vars.all (fun x => Tryz.pinned.checked.prog.varReadable x)) = true := by kernel_rfl
theorem jf3_20 : (Tryz.f3.resultTypes.all (fun t => Tryz.pinned.checked.prog.readableRec t && decide (t < Tryz.pinned.checked.prog.types.size))) = true := by kernel_rfl
theorem jf3_21 : ((Rows.schedBlanksRow.ifacesOut == Tryz.f3.resultTypes.toList.any (fun x => Tryz.pinned.checked.prog.ifacesRec x))) = true := by kernel_rfl
theorem jf3_22 : ((Rows.schedBlanksRow.loopsOut == Tryz.f3.resultTypes.toList.any (fun x => Tryz.pinned.checked.prog.loopsFrom x))) = true := by kernel_rfl
theorem jf3_23 : ((Rows.schedBlanksRow.plainKeys == Tryz.pinned.checked.prog.plainKeys)) = true := by kernel_rfl
theorem jf3_24 : (Rows.schedBlanksRow.shortTexts.isNone) = true := by kernel_rfl
theorem jf3_25 : (Tryz.pinned.checked.prog.stopsHeard) = true := by kernel_rfl
theorem jf3_26 : (Tryz.pinned.checked.prog.mayEnter) = true := by kernel_rfl
theorem jf3_27 : ((Rows.schedBlanksRow.lifted == Tryz.pinned.checked.prog.liftsFinal)) = true := by kernel_rfl
theorem jf3_28 : ((Tryz.pinned.checked.prog.make == some Rows.schedBlanksRow.make)) = true := by kernel_rfl
theorem jf3_29 : ((Rows.schedBlanksRow.kinds == (if Rows.schedBlanksRow.domain.isEmpty then [] else Tryz.f3.params.toList.map fun t => match Tryz.pinned.checked.prog.underlying t with | some (.int k) => some k | _ => none))) = true := by kernel_rfl
theorem jf3_30 : ((Rows.schedBlanksRow.pinned == Rows.schedBlanksRow.pinnedBy)) = true := by kernel_rfl
theorem jf3_31 : ((Rows.schedBlanksRow.veiled == (Tryz.f3.params.toList ++ Rows.schedBlanksSpec.plain.varTypes Tryz.pinned.checked.prog ++ Tryz.f3.resultTypes.toList).any (fun x => Tryz.pinned.checked.prog.veiledRec x))) = true := by kernel_rfl
theorem jf3_32 : (Rows.schedBlanksRow.veiledFits Tryz.pinned.checked.prog Tryz.f3.params.toList (Tryz.f3.params.toList ++ Rows.schedBlanksSpec.plain.varTypes Tryz.pinned.checked.prog ++ Tryz.f3.resultTypes.toList)) = true := by kernel_rfl
end Go.Proofs.YtbhjimflcfnpaaaGreatDoor

namespace Go.Proofs.YtbhjimflcfnpaaaGreatDoor
open Go
set_option maxRecDepth 100000 in
theorem jf3 : joinedFacts Tryz.pinned.checked.prog 3 Tryz.f3 Rows.schedBlanksSpec Rows.schedBlanksRow = true := by
  unfold joinedFacts
  exact (bAnd (bAnd (bAnd (bAnd (bAnd (bAnd (bAnd (bAnd (bAnd (bAnd (bAnd (bAnd (bAnd (bAnd (bAnd (bAnd (bAnd (bAnd (bAnd (bAnd (bAnd (bAnd (bAnd (bAnd (bAnd (bAnd (bAnd (bAnd (bAnd (bAnd (bAnd jf3_1 jf3_2) jf3_3) jf3_4) jf3_5) jf3_6) jf3_7) jf3_8) jf3_9) jf3_10) jf3_11) jf3_12) jf3_13) jf3_14) jf3_15) jf3_16) jf3_17) jf3_18) jf3_19) jf3_20) jf3_21) jf3_22) jf3_23) jf3_24) jf3_25) jf3_26) jf3_27) jf3_28) jf3_29) jf3_30) jf3_31) jf3_32)
end Go.Proofs.YtbhjimflcfnpaaaGreatDoor

