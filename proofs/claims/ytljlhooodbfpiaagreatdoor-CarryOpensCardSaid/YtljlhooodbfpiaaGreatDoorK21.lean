import Derived.Test.YtljlhooodbfpiaaGreatDoorRows
import Derived.JoinedOf
set_option linter.all false
/-! What is asked of the row's cells: reckoned, one by one. -/
namespace Go.Proofs.YtljlhooodbfpiaaGreatDoor
open Go
theorem bAnd {a b : Bool} (ha : a = true) (hb : b = true) : (a && b) = true := by rw [ha, hb]; rfl
theorem jf4_1 : (Rows.carryOpensRow.wf (OpenSpec.ofChange Rows.carryOpensSpec)) = true := by kernel_rfl
theorem jf4_2 : (laidOutB Tryz.pinned.checked.prog) = true := by kernel_rfl
theorem jf4_3 : (mapsRowed Tryz.pinned.checked.prog) = true := by kernel_rfl
theorem jf4_4 : (Tryz.f4.params.all (fun x => Tryz.pinned.checked.prog.readableRec x)) = true := by kernel_rfl
theorem jf4_5 : (namedTie Tryz.pinned.checked.prog Rows.carryOpensRow.named Rows.carryOpensSpec.vars) = true := by kernel_rfl
theorem jf4_6 : ((Rows.carryOpensRow.stops == [])) = true := by kernel_rfl
theorem jf4_7 : ((Tryz.pinned.checked.prog.stops == [])) = true := by kernel_rfl
theorem jf4_8 : ((Rows.carryOpensRow.knobs == [])) = true := by kernel_rfl
theorem jf4_9 : ((Tryz.pinned.checked.prog.stopKnobs == [])) = true := by kernel_rfl
theorem jf4_10 : ((Rows.carryOpensRow.inPlace == Tryz.pinned.checked.prog.inPlace 4)) = true := by kernel_rfl
theorem jf4_11 : ((Rows.carryOpensRow.unfollowed == Tryz.pinned.checked.prog.unfollowed 4)) = true := by kernel_rfl
theorem jf4_12 : ((Rows.carryOpensRow.recurses == Tryz.pinned.checked.prog.recurses 4)) = true := by kernel_rfl
theorem jf4_13 : ((Rows.carryOpensRow.named == Tryz.pinned.checked.prog.varsNamed 4)) = true := by kernel_rfl
theorem jf4_14 : ((Rows.carryOpensRow.maps == (Tryz.f4.params.toList ++ Rows.carryOpensSpec.plain.varTypes Tryz.pinned.checked.prog).any (fun x => Tryz.pinned.checked.prog.mapsRec x))) = true := by kernel_rfl
theorem jf4_15 : ((Rows.carryOpensRow.ifaces == (Tryz.f4.params.toList ++ Rows.carryOpensSpec.plain.varTypes Tryz.pinned.checked.prog).any (fun x => Tryz.pinned.checked.prog.ifacesRec x))) = true := by kernel_rfl
theorem jf4_16 : ((Rows.carryOpensRow.mapsOut == Tryz.pinned.checked.prog.mapsAmong Tryz.f4.resultTypes.toList)) = true := by kernel_rfl
theorem jf4_17 : ((Rows.carryOpensRow.loops == (Tryz.f4.params.toList ++ Rows.carryOpensSpec.plain.varTypes Tryz.pinned.checked.prog).any (fun x => Tryz.pinned.checked.prog.loopsFrom x))) = true := by kernel_rfl
theorem jf4_18 : ((Rows.carryOpensRow.wideKeys == (Tryz.f4.params.toList ++ Rows.carryOpensSpec.plain.varTypes Tryz.pinned.checked.prog ++ Tryz.f4.resultTypes.toList).any (fun x => Tryz.pinned.checked.prog.wideKeysFrom x))) = true := by kernel_rfl
theorem jf4_19 : (Rows.carryOpensSpec.vars.all (fun x => Tryz.pinned.checked.prog.varReadable x)) = true := by kernel_rfl
theorem jf4_20 : (Tryz.f4.resultTypes.all (fun t => Tryz.pinned.checked.prog.readableRec t && decide (t < Tryz.pinned.checked.prog.types.size))) = true := by kernel_rfl
theorem jf4_21 : ((Rows.carryOpensRow.ifacesOut == Tryz.f4.resultTypes.toList.any (fun x => Tryz.pinned.checked.prog.ifacesRec x))) = true := by kernel_rfl
theorem jf4_22 : ((Rows.carryOpensRow.loopsOut == Tryz.f4.resultTypes.toList.any (fun x => Tryz.pinned.checked.prog.loopsFrom x))) = true := by kernel_rfl
theorem jf4_23 : ((Rows.carryOpensRow.plainKeys == Tryz.pinned.checked.prog.plainKeys)) = true := by kernel_rfl
theorem jf4_24 : (Rows.carryOpensRow.shortTexts.isNone) = true := by kernel_rfl
theorem jf4_25 : (Tryz.pinned.checked.prog.stopsHeard) = true := by kernel_rfl
theorem jf4_26 : (Tryz.pinned.checked.prog.mayEnter) = true := by kernel_rfl
theorem jf4_27 : ((Rows.carryOpensRow.lifted == Tryz.pinned.checked.prog.liftsFinal)) = true := by kernel_rfl
theorem jf4_28 : ((Tryz.pinned.checked.prog.make == some Rows.carryOpensRow.make)) = true := by kernel_rfl
theorem jf4_29 : ((Rows.carryOpensRow.kinds == (if Rows.carryOpensRow.domain.isEmpty then [] else Tryz.f4.params.toList.map fun t => match Tryz.pinned.checked.prog.underlying t with | some (.int k) => some k | _ => none))) = true := by kernel_rfl
theorem jf4_30 : ((Rows.carryOpensRow.pinned == Rows.carryOpensRow.pinnedBy)) = true := by kernel_rfl
theorem jf4_31 : ((Rows.carryOpensRow.veiled == (Tryz.f4.params.toList ++ Rows.carryOpensSpec.plain.varTypes Tryz.pinned.checked.prog ++ Tryz.f4.resultTypes.toList).any (fun x => Tryz.pinned.checked.prog.veiledRec x))) = true := by kernel_rfl
theorem jf4_32 : (Rows.carryOpensRow.veiledFits Tryz.pinned.checked.prog Tryz.f4.params.toList (Tryz.f4.params.toList ++ Rows.carryOpensSpec.plain.varTypes Tryz.pinned.checked.prog ++ Tryz.f4.resultTypes.toList)) = true := by kernel_rfl
end Go.Proofs.YtljlhooodbfpiaaGreatDoor

