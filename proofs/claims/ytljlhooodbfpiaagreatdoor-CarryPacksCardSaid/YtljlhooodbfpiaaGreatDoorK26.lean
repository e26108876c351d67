import Derived.Test.YtljlhooodbfpiaaGreatDoorRows
import Derived.JoinedOf
set_option linter.all false
/-! What is asked of the row's cells: reckoned, one by one. -/
namespace Go.Proofs.YtljlhooodbfpiaaGreatDoor
open Go
theorem bAnd {a b : Bool} (ha : a = true) (hb : b = true) : (a && b) = true := by rw [ha, hb]; rfl
theorem jf5_1 : (Rows.carryPacksRow.wf (OpenSpec.ofChange Rows.carryPacksSpec)) = true := by kernel_rfl
theorem jf5_2 : (laidOutB Tryz.pinned.checked.prog) = true := by kernel_rfl
theorem jf5_3 : (mapsRowed Tryz.pinned.checked.prog) = true := by kernel_rfl
theorem jf5_4 : (Tryz.f5.params.all (fun x => Tryz.pinned.checked.prog.readableRec x)) = true := by kernel_rfl
theorem jf5_5 : (namedTie Tryz.pinned.checked.prog Rows.carryPacksRow.named Rows.carryPacksSpec.vars) = true := by kernel_rfl
theorem jf5_6 : ((Rows.carryPacksRow.stops == [])) = true := by kernel_rfl
theorem jf5_7 : ((Tryz.pinned.checked.prog.stops == [])) = true := by kernel_rfl
theorem jf5_8 : ((Rows.carryPacksRow.knobs == [])) = true := by kernel_rfl
theorem jf5_9 : ((Tryz.pinned.checked.prog.stopKnobs == [])) = true := by kernel_rfl
theorem jf5_10 : ((Rows.carryPacksRow.inPlace == Tryz.pinned.checked.prog.inPlace 5)) = true := by kernel_rfl
theorem jf5_11 : ((Rows.carryPacksRow.unfollowed == Tryz.pinned.checked.prog.unfollowed 5)) = true := by kernel_rfl
theorem jf5_12 : ((Rows.carryPacksRow.recurses == Tryz.pinned.checked.prog.recurses 5)) = true := by kernel_rfl
theorem jf5_13 : ((Rows.carryPacksRow.named == Tryz.pinned.checked.prog.varsNamed 5)) = true := by kernel_rfl
theorem jf5_14 : ((Rows.carryPacksRow.maps == (Tryz.f5.params.toList ++ Rows.carryPacksSpec.plain.varTypes Tryz.pinned.checked.prog).any (fun x => Tryz.pinned.checked.prog.mapsRec x))) = true := by kernel_rfl
theorem jf5_15 : ((Rows.carryPacksRow.ifaces == (Tryz.f5.params.toList ++ Rows.carryPacksSpec.plain.varTypes Tryz.pinned.checked.prog).any (fun x => Tryz.pinned.checked.prog.ifacesRec x))) = true := by kernel_rfl
theorem jf5_16 : ((Rows.carryPacksRow.mapsOut == Tryz.pinned.checked.prog.mapsAmong Tryz.f5.resultTypes.toList)) = true := by kernel_rfl
theorem jf5_17 : ((Rows.carryPacksRow.loops == (Tryz.f5.params.toList ++ Rows.carryPacksSpec.plain.varTypes Tryz.pinned.checked.prog).any (fun x => Tryz.pinned.checked.prog.loopsFrom x))) = true := by kernel_rfl
theorem jf5_18 : ((Rows.carryPacksRow.wideKeys == (Tryz.f5.params.toList ++ Rows.carryPacksSpec.plain.varTypes Tryz.pinned.checked.prog ++ Tryz.f5.resultTypes.toList).any (fun x => Tryz.pinned.checked.prog.wideKeysFrom x))) = true := by kernel_rfl
theorem jf5_19 : (Rows.carryPacksSpec.vars.all (fun x => Tryz.pinned.checked.prog.varReadable x)) = true := by kernel_rfl
theorem jf5_20 : (Tryz.f5.resultTypes.all (fun t => Tryz.pinned.checked.prog.readableRec t && decide (t < Tryz.pinned.checked.prog.types.size))) = true := by kernel_rfl
theorem jf5_21 : ((Rows.carryPacksRow.ifacesOut == Tryz.f5.resultTypes.toList.any (fun x => Tryz.pinned.checked.prog.ifacesRec x))) = true := by kernel_rfl
theorem jf5_22 : ((Rows.carryPacksRow.loopsOut == Tryz.f5.resultTypes.toList.any (fun x => Tryz.pinned.checked.prog.loopsFrom x))) = true := by kernel_rfl
theorem jf5_23 : ((Rows.carryPacksRow.plainKeys == Tryz.pinned.checked.prog.plainKeys)) = true := by kernel_rfl
theorem jf5_24 : (Rows.carryPacksRow.shortTexts.isNone) = true := by kernel_rfl
theorem jf5_25 : (Tryz.pinned.checked.prog.stopsHeard) = true := by kernel_rfl
theorem jf5_26 : (Tryz.pinned.checked.prog.mayEnter) = true := by kernel_rfl
theorem jf5_27 : ((Rows.carryPacksRow.lifted == Tryz.pinned.checked.prog.liftsFinal)) = true := by kernel_rfl
theorem jf5_28 : ((Tryz.pinned.checked.prog.make == some Rows.carryPacksRow.make)) = true := by kernel_rfl
theorem jf5_29 : ((Rows.carryPacksRow.kinds == (if Rows.carryPacksRow.domain.isEmpty then [] else Tryz.f5.params.toList.map fun t => match Tryz.pinned.checked.prog.underlying t with | some (.int k) => some k | _ => none))) = true := by kernel_rfl
theorem jf5_30 : ((Rows.carryPacksRow.pinned == Rows.carryPacksRow.pinnedBy)) = true := by kernel_rfl
theorem jf5_31 : ((Rows.carryPacksRow.veiled == (Tryz.f5.params.toList ++ Rows.carryPacksSpec.plain.varTypes Tryz.pinned.checked.prog ++ Tryz.f5.resultTypes.toList).any (fun x => Tryz.pinned.checked.prog.veiledRec x))) = true := by kernel_rfl
theorem jf5_32 : (Rows.carryPacksRow.veiledFits Tryz.pinned.checked.prog Tryz.f5.params.toList (Tryz.f5.params.toList ++ Rows.carryPacksSpec.plain.varTypes Tryz.pinned.checked.prog ++ Tryz.f5.resultTypes.toList)) = true := by kernel_rfl
end Go.Proofs.YtljlhooodbfpiaaGreatDoor

