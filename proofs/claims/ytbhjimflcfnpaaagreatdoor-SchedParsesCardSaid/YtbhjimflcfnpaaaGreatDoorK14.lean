import Derived.Test.YtbhjimflcfnpaaaGreatDoorRows
import Derived.JoinedOf
set_option linter.all false
/-! What is asked of the row's cells: reckoned, one by one. -/
namespace Go.Proofs.YtbhjimflcfnpaaaGreatDoor
open Go
theorem bAnd {a b : Bool} (ha : a = true) (hb : b = true) : (a && b) = true := by rw [ha, hb]; rfl
theorem jf4_1 : (Rows.schedParsesRow.wf (OpenSpec.ofChange Rows.schedParsesSpec)) = true := by kernel_rfl
theorem jf4_2 : (laidOutB Tryz.pinned.checked.prog) = true := by kernel_rfl
theorem jf4_3 : (mapsRowed Tryz.pinned.checked.prog) = true := by kernel_rfl
theorem jf4_4 : (Tryz.f4.params.all (fun x => Tryz.pinned.checked.prog.readableRec x)) = true := by kernel_rfl
theorem jf4_5 : (namedTie Tryz.pinned.checked.prog Rows.schedParsesRow.named Rows.schedParsesSpec.vars) = true := by kernel_rfl
theorem jf4_6 : ((Rows.schedParsesRow.stops == [])) = true := by kernel_rfl
theorem jf4_7 : ((Tryz.pinned.checked.prog.stops == [])) = true := by kernel_rfl
theorem jf4_8 : ((Rows.schedParsesRow.knobs == [])) = true := by kernel_rfl
theorem jf4_9 : ((Tryz.pinned.checked.prog.stopKnobs == [])) = true := by kernel_rfl
theorem jf4_10 : ((Rows.schedParsesRow.inPlace == Tryz.pinned.checked.prog.inPlace 4)) = true := by kernel_rfl
theorem jf4_11 : ((Rows.schedParsesRow.unfollowed == Tryz.pinned.checked.prog.unfollowed 4)) = true := by kernel_rfl
theorem jf4_12 : ((Rows.schedParsesRow.recurses == Tryz.pinned.checked.prog.recurses 4)) = true := by kernel_rfl
theorem jf4_13 : ((Rows.schedParsesRow.named == Tryz.pinned.checked.prog.varsNamed 4)) = true := by kernel_rfl
theorem jf4_14 : ((Rows.schedParsesRow.maps == (Tryz.f4.params.toList ++ Rows.schedParsesSpec.plain.varTypes Tryz.pinned.checked.prog).any (fun x => Tryz.pinned.checked.prog.mapsRec x))) = true := by kernel_rfl
theorem jf4_15 : ((Rows.schedParsesRow.ifaces == (Tryz.f4.params.toList ++ Rows.schedParsesSpec.plain.varTypes Tryz.pinned.checked.prog).any (fun x => Tryz.pinned.checked.prog.ifacesRec x))) = true := by kernel_rfl
theorem jf4_16 : ((Rows.schedParsesRow.mapsOut == Tryz.pinned.checked.prog.mapsAmong Tryz.f4.resultTypes.toList)) = true := by kernel_rfl
theorem jf4_17 : ((Rows.schedParsesRow.loops == (Tryz.f4.params.toList ++ Rows.schedParsesSpec.plain.varTypes Tryz.pinned.checked.prog).any (fun x => Tryz.pinned.checked.prog.loopsFrom x))) = true := by kernel_rfl
theorem jf4_18 : ((Rows.schedParsesRow.wideKeys == (Tryz.f4.params.toList ++ Rows.schedParsesSpec.plain.varTypes Tryz.pinned.checked.prog ++ Tryz.f4.resultTypes.toList).any (fun x => Tryz.pinned.checked.prog.wideKeysFrom x))) = true := by kernel_rfl
theorem jf4_19 : (Rows.schedParsesSpec.vars.all (fun x => Tryz.pinned.checked.prog.varReadable x)) = true := by kernel_rfl
theorem jf4_20 : (Tryz.f4.resultTypes.all (fun t => Tryz.pinned.checked.prog.readableRec t && decide (t < Tryz.pinned.checked.prog.types.size))) = true := by kernel_rfl
theorem jf4_21 : ((Rows.schedParsesRow.ifacesOut == Tryz.f4.resultTypes.toList.any (fun x => Tryz.pinned.checked.prog.ifacesRec x))) = true := by kernel_rfl
theorem jf4_22 : ((Rows.schedParsesRow.loopsOut == Tryz.f4.resultTypes.toList.any (fun x => Tryz.pinned.checked.prog.loopsFrom x))) = true := by kernel_rfl
theorem jf4_23 : ((Rows.schedParsesRow.plainKeys == Tryz.pinned.checked.prog.plainKeys)) = true := by kernel_rfl
theorem jf4_24 : (Rows.schedParsesRow.shortTexts.isNone) = true := by kernel_rfl
theorem jf4_25 : (Tryz.pinned.checked.prog.stopsHeard) = true := by kernel_rfl
theorem jf4_26 : (Tryz.pinned.checked.prog.mayEnter) = true := by kernel_rfl
theorem jf4_27 : ((Rows.schedParsesRow.lifted == Tryz.pinned.checked.prog.liftsFinal)) = true := by kernel_rfl
theorem jf4_28 : ((Tryz.pinned.checked.prog.make == some Rows.schedParsesRow.make)) = true := by kernel_rfl
theorem jf4_29 : ((Rows.schedParsesRow.kinds == (if Rows.schedParsesRow.domain.isEmpty then [] else Tryz.f4.params.toList.map fun t => match Tryz.pinned.checked.prog.underlying t with | some (.int k) => some k | _ => none))) = true := by kernel_rfl
theorem jf4_30 : ((Rows.schedParsesRow.pinned == Rows.schedParsesRow.pinnedBy)) = true := by kernel_rfl
theorem jf4_31 : ((Rows.schedParsesRow.veiled == (Tryz.f4.params.toList ++ Rows.schedParsesSpec.plain.varTypes Tryz.pinned.checked.prog ++ Tryz.f4.resultTypes.toList).any (fun x => Tryz.pinned.checked.prog.veiledRec x))) = true := by kernel_rfl
theorem jf4_32 : (Rows.schedParsesRow.veiledFits Tryz.pinned.checked.prog Tryz.f4.params.toList (Tryz.f4.params.toList ++ Rows.schedParsesSpec.plain.varTypes Tryz.pinned.checked.prog ++ Tryz.f4.resultTypes.toList)) = true := by kernel_rfl
end Go.Proofs.YtbhjimflcfnpaaaGreatDoor

namespace Go.Proofs.YtbhjimflcfnpaaaGreatDoor
open Go
set_option maxRecDepth 100000 in
theorem jf4 : joinedFacts Tryz.pinned.checked.prog 4 Tryz.f4 Rows.schedParsesSpec Rows.schedParsesRow = true := by
  unfold joinedFacts
  exact (bAnd (bAnd (bAnd (bAnd (bAnd (bAnd (bAnd (bAnd (bAnd (bAnd (bAnd (bAnd (bAnd (bAnd (bAnd (bAnd (bAnd (bAnd (bAnd (bAnd (bAnd (bAnd (bAnd (bAnd (bAnd (bAnd (bAnd (bAnd (bAnd (bAnd (bAnd jf4_1 jf4_2) jf4_3) jf4_4) jf4_5) jf4_6) jf4_7) jf4_8) jf4_9) jf4_10) jf4_11) jf4_12) jf4_13) jf4_14) jf4_15) jf4_16) jf4_17) jf4_18) jf4_19) jf4_20) jf4_21) jf4_22) jf4_23) jf4_24) jf4_25) jf4_26) jf4_27) jf4_28) jf4_29) jf4_30) jf4_31) jf4_32)
end Go.Proofs.YtbhjimflcfnpaaaGreatDoor

