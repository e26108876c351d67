import Derived.Test.YtbhjimflcfnpaaaGreatDoorRows
import Derived.JoinedOf
set_option linter.all false
/-! What is asked of the row's cells: reckoned, one by one. -/
namespace Go.Proofs.YtbhjimflcfnpaaaGreatDoor
open Go
theorem bAnd {a b : Bool} (ha : a = true) (hb : b = true) : (a && b) = true := by rw [ha, hb]; rfl
theorem jf5_1 : (Rows.schedRightRow.wf (OpenSpec.ofChange Rows.schedRightSpec)) = true := by kernel_rfl
theorem jf5_2 : (laidOutB Tryz.pinned.checked.prog) = true := by kernel_rfl
theorem jf5_3 : (mapsRowed Tryz.pinned.checked.prog) = true := by kernel_rfl
theorem jf5_4 : (Tryz.f5.params.all (fun x => Tryz.pinned.checked.prog.readableRec x)) = true := by kernel_rfl
theorem jf5_5 : (namedTie Tryz.pinned.checked.prog Rows.schedRightRow.named Rows.schedRightSpec.vars) = true := by kernel_rfl
theorem jf5_6 : ((Rows.schedRightRow.stops == [])) = true := by kernel_rfl
theorem jf5_7 : ((Tryz.pinned.checked.prog.stops == [])) = true := by kernel_rfl
theorem jf5_8 : ((Rows.schedRightRow.knobs == [])) = true := by kernel_rfl
theorem jf5_9 : ((Tryz.pinned.checked.prog.stopKnobs == [])) = true := by kernel_rfl
theorem jf5_10 : ((Rows.schedRightRow.inPlace == Tryz.pinned.checked.prog.inPlace 5)) = true := by kernel_rfl
theorem jf5_11 : ((Rows.schedRightRow.unfollowed == Tryz.pinned.checked.prog.unfollowed 5)) = true := by kernel_rfl
theorem jf5_12 : ((Rows.schedRightRow.recurses == Tryz.pinned.checked.prog.recurses 5)) = true := by kernel_rfl
theorem jf5_13 : ((Rows.schedRightRow.named == Tryz.pinned.checked.prog.varsNamed 5)) = true := by kernel_rfl
theorem jf5_14 : ((Rows.schedRightRow.maps == (Tryz.f5.params.toList ++ Rows.schedRightSpec.plain.varTypes Tryz.pinned.checked.prog).any (fun x => Tryz.pinned.checked.prog.mapsRec x))) = true := by kernel_rfl
theorem jf5_15 : ((Rows.schedRightRow.ifaces == (Tryz.f5.params.toList ++ Rows.schedRightSpec.plain.varTypes Tryz.pinned.checked.prog).any (fun x => Tryz.pinned.checked.prog.ifacesRec x))) = true := by kernel_rfl
theorem jf5_16 : ((Rows.schedRightRow.mapsOut == Tryz.pinned.checked.prog.mapsAmong Tryz.f5.resultTypes.toList)) = true := by kernel_rfl
theorem jf5_17 : ((Rows.schedRightRow.loops == (Tryz.f5.params.toList ++ Rows.schedRightSpec.plain.varTypes Tryz.pinned.checked.prog).any (fun x => Tryz.pinned.checked.prog.loopsFrom x))) = true := by kernel_rfl
theorem jf5_18 : ((Rows.schedRightRow.wideKeys == (Tryz.f5.params.toList ++ Rows.schedRightSpec.plain.varTypes Tryz.pinned.checked.prog ++ Tryz.f5.resultTypes.toList).any (fun x => Tryz.pinned.checked.prog.wideKeysFrom x))) = true := by kernel_rfl
theorem jf5_19 : (Rows.schedRightSpec.vars.all (fun x => Tryz.pinned.checked.prog.varReadable x)) = true := by kernel_rfl
theorem jf5_20 : (Tryz.f5.resultTypes.all (fun t => Tryz.pinned.checked.prog.readableRec t && decide (t < Tryz.pinned.checked.prog.types.size))) = true := by kernel_rfl
theorem jf5_21 : ((Rows.schedRightRow.ifacesOut == Tryz.f5.resultTypes.toList.any (fun x => Tryz.pinned.checked.prog.ifacesRec x))) = true := by kernel_rfl
theorem jf5_22 : ((Rows.schedRightRow.loopsOut == Tryz.f5.resultTypes.toList.any (fun x => Tryz.pinned.checked.prog.loopsFrom x))) = true := by kernel_rfl
theorem jf5_23 : ((Rows.schedRightRow.plainKeys == Tryz.pinned.checked.prog.plainKeys)) = true := by kernel_rfl
theorem jf5_24 : (Rows.schedRightRow.shortTexts.isNone) = true := by kernel_rfl
theorem jf5_25 : (Tryz.pinned.checked.prog.stopsHeard) = true := by kernel_rfl
theorem jf5_26 : (Tryz.pinned.checked.prog.mayEnter) = true := by kernel_rfl
theorem jf5_27 : ((Rows.schedRightRow.lifted == Tryz.pinned.checked.prog.liftsFinal)) = true := by kernel_rfl
theorem jf5_28 : ((Tryz.pinned.checked.prog.make == some Rows.schedRightRow.make)) = true := by kernel_rfl
theorem jf5_29 : ((Rows.schedRightRow.kinds == (if Rows.schedRightRow.domain.isEmpty then [] else Tryz.f5.params.toList.map fun t => match Tryz.pinned.checked.prog.underlying t with | some (.int k) => some k | _ => none))) = true := by kernel_rfl
theorem jf5_30 : ((Rows.schedRightRow.pinned == Rows.schedRightRow.pinnedBy)) = true := by kernel_rfl
theorem jf5_31 : ((Rows.schedRightRow.veiled == (Tryz.f5.params.toList ++ Rows.schedRightSpec.plain.varTypes Tryz.pinned.checked.prog ++ Tryz.f5.resultTypes.toList).any (fun x => Tryz.pinned.checked.prog.veiledRec x))) = true := by kernel_rfl
theorem jf5_32 : (Rows.schedRightRow.veiledFits Tryz.pinned.checked.prog Tryz.f5.params.toList (Tryz.f5.params.toList ++ Rows.schedRightSpec.plain.varTypes Tryz.pinned.checked.prog ++ Tryz.f5.resultTypes.toList)) = true := by kernel_rfl
end Go.Proofs.YtbhjimflcfnpaaaGreatDoor

namespace Go.Proofs.YtbhjimflcfnpaaaGreatDoor
open Go
set_option maxRecDepth 100000 in
theorem jf5 : joinedFacts Tryz.pinned.checked.prog 5 Tryz.f5 Rows.schedRightSpec Rows.schedRightRow = true := by
  unfold joinedFacts
  exact (bAnd (bAnd (bAnd (bAnd (bAnd (bAnd (bAnd (bAnd (bAnd (bAnd (bAnd (bAnd (bAnd (bAnd (bAnd (bAnd (bAnd (bAnd (bAnd (bAnd (bAnd (bAnd (bAnd (bAnd (bAnd (bAnd (bAnd (bAnd (bAnd (bAnd (bAnd jf5_1 jf5_2) jf5_3) jf5_4) jf5_5) jf5_6) jf5_7) jf5_8) jf5_9) jf5_10) jf5_11) jf5_12) jf5_13) jf5_14) jf5_15) jf5_16) jf5_17) jf5_18) jf5_19) jf5_20) jf5_21) jf5_22) jf5_23) jf5_24) jf5_25) jf5_26) jf5_27) jf5_28) jf5_29) jf5_30) jf5_31) jf5_32)
end Go.Proofs.YtbhjimflcfnpaaaGreatDoor

