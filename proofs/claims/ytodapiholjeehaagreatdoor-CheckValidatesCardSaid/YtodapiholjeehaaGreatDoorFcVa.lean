/-
  The closed facts of the row checkValidates, one by one.
-/
import Derived.Test.YtodapiholjeehaaGreatDoorCards
import Derived.JoinedOf
namespace Go.Proofs.YtodapiholjeehaaGreatDoor
set_option linter.unusedVariables false
theorem fcva_1 : Rows.checkValidatesRow.wf (OpenSpec.ofChange Rows.checkValidatesSpec) = true := by kernel_rfl
theorem fcva_4 : Tryz.f8.params.all (Tryz.prog.readableRec ·) = true := by kernel_rfl
theorem fcva_5 : namedTie Tryz.prog Rows.checkValidatesRow.named Rows.checkValidatesSpec.vars = true := by kernel_rfl
theorem fcva_6 : (Rows.checkValidatesRow.stops == []) = true := by kernel_rfl
theorem fcva_8 : (Rows.checkValidatesRow.knobs == []) = true := by kernel_rfl
theorem fcva_10 : (Rows.checkValidatesRow.inPlace == Tryz.prog.inPlace 8) = true := by kernel_rfl
theorem fcva_11 : (Rows.checkValidatesRow.unfollowed == Tryz.prog.unfollowed 8) = true := by kernel_rfl
theorem fcva_12 : (Rows.checkValidatesRow.recurses == Tryz.prog.recurses 8) = true := by kernel_rfl
theorem fcva_13 : (Rows.checkValidatesRow.named == Tryz.prog.varsNamed 8) = true := by kernel_rfl
theorem fcva_14 : (Rows.checkValidatesRow.maps == (Tryz.f8.params.toList ++ Rows.checkValidatesSpec.plain.varTypes Tryz.prog).any (Tryz.prog.mapsRec ·)) = true := by kernel_rfl
theorem fcva_15 : (Rows.checkValidatesRow.ifaces == (Tryz.f8.params.toList ++ Rows.checkValidatesSpec.plain.varTypes Tryz.prog).any (Tryz.prog.ifacesRec ·)) = true := by kernel_rfl
theorem fcva_16 : (Rows.checkValidatesRow.mapsOut == Tryz.prog.mapsAmong Tryz.f8.resultTypes.toList) = true := by kernel_rfl
theorem fcva_17 : (Rows.checkValidatesRow.loops == (Tryz.f8.params.toList ++ Rows.checkValidatesSpec.plain.varTypes Tryz.prog).any (Tryz.prog.loopsFrom ·)) = true := by kernel_rfl
theorem fcva_18 : (Rows.checkValidatesRow.wideKeys == (Tryz.f8.params.toList ++ Rows.checkValidatesSpec.plain.varTypes Tryz.prog ++ Tryz.f8.resultTypes.toList).any (Tryz.prog.wideKeysFrom ·)) = true := by kernel_rfl
theorem fcva_19 : Rows.checkValidatesSpec.vars.all (Tryz.prog.varReadable ·) = true := by kernel_rfl
theorem fcva_20 : Tryz.f8.resultTypes.all (fun t => Tryz.prog.readableRec t && decide (t < Tryz.prog.types.size)) = true := by kernel_rfl
theorem fcva_21 : (Rows.checkValidatesRow.ifacesOut == Tryz.f8.resultTypes.toList.any (Tryz.prog.ifacesRec ·)) = true := by kernel_rfl
theorem fcva_22 : (Rows.checkValidatesRow.loopsOut == Tryz.f8.resultTypes.toList.any (Tryz.prog.loopsFrom ·)) = true := by kernel_rfl
theorem fcva_24 : Rows.checkValidatesRow.shortTexts.isNone = true := by kernel_rfl
theorem fcva_23 : (Rows.checkValidatesRow.plainKeys == Tryz.prog.plainKeys) = true := by kernel_rfl
theorem fcva_27 : (Rows.checkValidatesRow.lifted == Tryz.prog.liftsFinal) = true := by kernel_rfl
theorem fcva_28 : (Tryz.prog.make == some Rows.checkValidatesRow.make) = true := by kernel_rfl
theorem fcva_29a : Rows.checkValidatesRow.domain.isEmpty = true := by kernel_rfl
theorem fcva_29 : (Rows.checkValidatesRow.kinds == []) = true := by kernel_rfl
theorem fcva_30 : (Rows.checkValidatesRow.pinned == Rows.checkValidatesRow.pinnedBy) = true := by kernel_rfl
theorem fcva_31 : (Rows.checkValidatesRow.veiled == (Tryz.f8.params.toList ++ Rows.checkValidatesSpec.plain.varTypes Tryz.prog ++ Tryz.f8.resultTypes.toList).any (Tryz.prog.veiledRec ·)) = true := by kernel_rfl
theorem fcva_32 : Rows.checkValidatesRow.veiledFits Tryz.prog Tryz.f8.params.toList (Tryz.f8.params.toList ++ Rows.checkValidatesSpec.plain.varTypes Tryz.prog ++ Tryz.f8.resultTypes.toList) = true := by kernel_rfl
theorem fcva_func : Tryz.prog.funcNamed "warehouse/warehouselaw28.CheckValidates" = some 8 := by kernel_rfl
theorem fcva_inst : Tryz.f8.isInstance Tryz.prog Rows.checkValidatesRow.origin Rows.checkValidatesRow.targs := of_decide_eq_true (by kernel_rfl)
theorem fcva_goes : false = Rows.checkValidatesRow.goesBy Tryz.prog := by kernel_rfl
theorem fcva_wft : Rows.checkValidatesRow.wfByText (OpenSpec.ofChange Rows.checkValidatesSpec) = true := by kernel_rfl
theorem fcva_main : Tryz.prog.mainIs = some (Rows.checkValidatesCard.stood.harness.1, Rows.checkValidatesCard.stood.harness.2.toList) := by kernel_rfl
theorem fcva_wants : (Tryz.f8.params.toList.all fun u => !Tryz.prog.wantsStandIn u) = true := by kernel_rfl
end Go.Proofs.YtodapiholjeehaaGreatDoor
