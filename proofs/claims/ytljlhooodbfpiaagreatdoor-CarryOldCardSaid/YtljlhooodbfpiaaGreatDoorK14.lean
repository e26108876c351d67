import Derived.Test.YtljlhooodbfpiaaGreatDoorRows
import Derived.JoinedOf
set_option linter.all false
/-! What is asked of the row's cells: reckoned, one by one. -/
namespace Go.Proofs.YtljlhooodbfpiaaGreatDoor
open Go
theorem bAnd {a b : Bool} (ha : a = true) (hb : b = true) : (a && b) = true := by rw [ha, hb]; rfl
theorem jf3_1 : (Rows.carryOldRow.wf (OpenSpec.ofChange Rows.carryOldSpec)) = true := by kernel_rfl
theorem jf3_2 : (laidOutB Tryz.pinned.checked.prog) = true := by kernel_rfl
theorem jf3_3 : (mapsRowed Tryz.pinned.checked.prog) = true := by kernel_rfl
theorem jf3_4 : (Tryz.f3.params.all (fun x => Tryz.pinned.checked.prog.readableRec x)) = true := by kernel_rfl
theorem jf3_5 : (namedTie Tryz.pinned.checked.prog Rows.carryOldRow.named Rows.carryOldSpec.vars) = true := by kernel_rfl
theorem jf3_6 : ((Rows.carryOldRow.stops == [])) = true := by kernel_rfl
theorem jf3_7 : ((Tryz.pinned.checked.prog.stops == [])) = true := by kernel_rfl
theorem jf3_8 : ((Rows.carryOldRow.knobs == [])) = true := by kernel_rfl
theorem jf3_9 : ((Tryz.pinned.checked.prog.stopKnobs == [])) = true := by kernel_rfl
theorem jf3_10 : ((Rows.carryOldRow.inPlace == Tryz.pinned.checked.prog.inPlace 3)) = true := by kernel_rfl
theorem jf3_11 : ((Rows.carryOldRow.unfollowed == Tryz.pinned.checked.prog.unfollowed 3)) = true := by kernel_rfl
theorem jf3_12 : ((Rows.carryOldRow.recurses == Tryz.pinned.checked.prog.recurses 3)) = true := by kernel_rfl
theorem jf3_13 : ((Rows.carryOldRow.named == Tryz.pinned.checked.prog.varsNamed 3)) = true := by kernel_rfl
theorem jf3_14 : ((Rows.carryOldRow.maps == (Tryz.f3.params.toList ++ Rows.carryOldSpec.plain.varTypes Tryz.pinned.checked.prog).any (fun x => Tryz.pinned.checked.prog.mapsRec x))) = true := by kernel_rfl
theorem jf3_15 : ((Rows.carryOldRow.ifaces == (Tryz.f3.params.toList ++ Rows.carryOldSpec.plain.varTypes Tryz.pinned.checked.prog).any (fun x => Tryz.pinned.checked.prog.ifacesRec x))) = true := by kernel_rfl
theorem jf3_16 : ((Rows.carryOldRow.mapsOut == Tryz.pinned.checked.prog.mapsAmong Tryz.f3.resultTypes.toList)) = true := by kernel_rfl
theorem jf3_17 : ((Rows.carryOldRow.loops == (Tryz.f3.params.toList ++ Rows.carryOldSpec.plain.varTypes Tryz.pinned.checked.prog).any (fun x => Tryz.pinned.checked.prog.loopsFrom x))) = true := by kernel_rfl
theorem jf3_18 : ((Rows.carryOldRow.wideKeys == (Tryz.f3.params.toList ++ Rows.carryOldSpec.plain.varTypes Tryz.pinned.checked.prog ++ Tryz.f3.resultTypes.toList).any (fun x => Tryz.pinned.checked.prog.wideKeysFrom x))) = true := by kernel_rfl
theorem jf3_19 : (Rows.carryOldSpec.vars.all (fun x => Tryz.pinned.checked.prog.varReadable x)) = true := by kernel_rfl
theorem jf3_20 : (Tryz.f3.resultTypes.all (fun t => Tryz.pinned.checked.prog.readableRec t && decide (t < Tryz.pinned.checked.prog.types.size))) = true := by kernel_rfl
theorem jf3_21 : ((Rows.carryOldRow.ifacesOut == Tryz.f3.resultTypes.toList.any (fun x => Tryz.pinned.checked.prog.ifacesRec x))) = true := by kernel_rfl
theorem jf3_22 : ((Rows.carryOldRow.loopsOut == Tryz.f3.resultTypes.toList.any (fun x => Tryz.pinned.checked.prog.loopsFrom x))) = true := by kernel_rfl
theorem jf3_23 : ((Rows.carryOldRow.plainKeys == Tryz.pinned.checked.prog.plainKeys)) = true := by kernel_rfl
theorem jf3_24 : (Rows.carryOldRow.shortTexts.isNone) = true := by kernel_rfl
theorem jf3_25 : (Tryz.pinned.checked.prog.stopsHeard) = true := by kernel_rfl
theorem jf3_26 : (Tryz.pinned.checked.prog.mayEnter) = true := by kernel_rfl
theorem jf3_27 : ((Rows.carryOldRow.lifted == Tryz.pinned.checked.prog.liftsFinal)) = true := by kernel_rfl
theorem jf3_28 : ((Tryz.pinned.checked.prog.make == some Rows.carryOldRow.make)) = true := by kernel_rfl
theorem jf3_29 : ((Rows.carryOldRow.kinds == (if Rows.carryOldRow.domain.isEmpty then [] else Tryz.f3.params.toList.map fun t => match Tryz.pinned.checked.prog.underlying t with | some (.int k) => some k | _ => none))) = true := by kernel_rfl
theorem jf3_30 : ((Rows.carryOldRow.pinned == Rows.carryOldRow.pinnedBy)) = true := by kernel_rfl
theorem jf3_31 : ((Rows.carryOldRow.veiled == (Tryz.f3.params.toList ++ Rows.carryOldSpec.plain.varTypes Tryz.pinned.checked.prog ++ Tryz.f3.resultTypes.toList).any (fun x => Tryz.pinned.checked.prog.veiledRec x))) = true := by kernel_rfl
theorem jf3_32 : (Rows.carryOldRow.veiledFits Tryz.pinned.checked.prog Tryz.f3.params.toList (Tryz.f3.params.toList ++ Rows.carryOldSpec.plain.varTypes Tryz.pinned.checked.prog ++ Tryz.f3.resultTypes.toList)) = true := by kernel_rfl
end Go.Proofs.YtljlhooodbfpiaaGreatDoor

