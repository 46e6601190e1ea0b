/-
  The closed facts of the row checkReferences, one by one.
-/
import Derived.Test.YtggejcekmehocaaGreatDoorCards
import Derived.JoinedOf
namespace Go.Proofs.YtggejcekmehocaaGreatDoor
set_option linter.unusedVariables false
theorem fcre_1 : Rows.checkReferencesRow.wf (OpenSpec.ofChange Rows.checkReferencesSpec) = true := by kernel_rfl
theorem fcre_4 : Tryz.f9.params.all (Tryz.prog.readableRec ·) = true := by kernel_rfl
theorem fcre_5 : namedTie Tryz.prog Rows.checkReferencesRow.named Rows.checkReferencesSpec.vars = true := by kernel_rfl
theorem fcre_6 : (Rows.checkReferencesRow.stops == []) = true := by kernel_rfl
theorem fcre_8 : (Rows.checkReferencesRow.knobs == []) = true := by kernel_rfl
theorem fcre_10 : (Rows.checkReferencesRow.inPlace == Tryz.prog.inPlace 9) = true := by kernel_rfl
theorem fcre_11 : (Rows.checkReferencesRow.unfollowed == Tryz.prog.unfollowed 9) = true := by kernel_rfl
theorem fcre_12 : (Rows.checkReferencesRow.recurses == Tryz.prog.recurses 9) = true := by kernel_rfl
theorem fcre_13 : (Rows.checkReferencesRow.named == Tryz.prog.varsNamed 9) = true := by kernel_rfl
theorem fcre_14 : (Rows.checkReferencesRow.maps == (Tryz.f9.params.toList ++ Rows.checkReferencesSpec.plain.varTypes Tryz.prog).any (Tryz.prog.mapsRec ·)) = true := by kernel_rfl
theorem fcre_15 : (Rows.checkReferencesRow.ifaces == (Tryz.f9.params.toList ++ Rows.checkReferencesSpec.plain.varTypes Tryz.prog).any (Tryz.prog.ifacesRec ·)) = true := by kernel_rfl
theorem fcre_16 : (Rows.checkReferencesRow.mapsOut == Tryz.prog.mapsAmong Tryz.f9.resultTypes.toList) = true := by kernel_rfl
theorem fcre_17 : (Rows.checkReferencesRow.loops == (Tryz.f9.params.toList ++ Rows.checkReferencesSpec.plain.varTypes Tryz.prog).any (Tryz.prog.loopsFrom ·)) = true := by kernel_rfl
theorem fcre_18 : (Rows.checkReferencesRow.wideKeys == (Tryz.f9.params.toList ++ Rows.checkReferencesSpec.plain.varTypes Tryz.prog ++ Tryz.f9.resultTypes.toList).any (Tryz.prog.wideKeysFrom ·)) = true := by kernel_rfl
theorem fcre_19 : Rows.checkReferencesSpec.vars.all (Tryz.prog.varReadable ·) = true := by kernel_rfl
theorem fcre_20 : Tryz.f9.resultTypes.all (fun t => Tryz.prog.readableRec t && decide (t < Tryz.prog.types.size)) = true := by kernel_rfl
theorem fcre_21 : (Rows.checkReferencesRow.ifacesOut == Tryz.f9.resultTypes.toList.any (Tryz.prog.ifacesRec ·)) = true := by kernel_rfl
theorem fcre_22 : (Rows.checkReferencesRow.loopsOut == Tryz.f9.resultTypes.toList.any (Tryz.prog.loopsFrom ·)) = true := by kernel_rfl
theorem fcre_24 : Rows.checkReferencesRow.shortTexts.isNone = true := by kernel_rfl
theorem fcre_23 : (Rows.checkReferencesRow.plainKeys == Tryz.prog.plainKeys) = true := by kernel_rfl
theorem fcre_27 : (Rows.checkReferencesRow.lifted == Tryz.prog.liftsFinal) = true := by kernel_rfl
theorem fcre_28 : (Tryz.prog.make == some Rows.checkReferencesRow.make) = true := by kernel_rfl
theorem fcre_29a : Rows.checkReferencesRow.domain.isEmpty = true := by kernel_rfl
theorem fcre_29 : (Rows.checkReferencesRow.kinds == []) = true := by kernel_rfl
theorem fcre_30 : (Rows.checkReferencesRow.pinned == Rows.checkReferencesRow.pinnedBy) = true := by kernel_rfl
theorem fcre_31 : (Rows.checkReferencesRow.veiled == (Tryz.f9.params.toList ++ Rows.checkReferencesSpec.plain.varTypes Tryz.prog ++ Tryz.f9.resultTypes.toList).any (Tryz.prog.veiledRec ·)) = true := by kernel_rfl
theorem fcre_32 : Rows.checkReferencesRow.veiledFits Tryz.prog Tryz.f9.params.toList (Tryz.f9.params.toList ++ Rows.checkReferencesSpec.plain.varTypes Tryz.prog ++ Tryz.f9.resultTypes.toList) = true := by kernel_rfl
theorem fcre_func : Tryz.prog.funcNamed "warehouse/warehouselaw28.CheckReferences" = some 9 := by kernel_rfl
theorem fcre_inst : Tryz.f9.isInstance Tryz.prog Rows.checkReferencesRow.origin Rows.checkReferencesRow.targs := of_decide_eq_true (by kernel_rfl)
theorem fcre_goes : false = Rows.checkReferencesRow.goesBy Tryz.prog := by kernel_rfl
theorem fcre_wft : Rows.checkReferencesRow.wfByText (OpenSpec.ofChange Rows.checkReferencesSpec) = true := by kernel_rfl
theorem fcre_main : Tryz.prog.mainIs = some (Rows.checkReferencesCard.stood.harness.1, Rows.checkReferencesCard.stood.harness.2.toList) := by kernel_rfl
theorem fcre_wants : (Tryz.f9.params.toList.all fun u => !Tryz.prog.wantsStandIn u) = true := by kernel_rfl
end Go.Proofs.YtggejcekmehocaaGreatDoor
