/-
  The closed facts of the row checkShares, one by one.
-/
import Derived.Test.YtggejcekmehocaaGreatDoorCards
import Derived.JoinedOf
namespace Go.Proofs.YtggejcekmehocaaGreatDoor
set_option linter.unusedVariables false
theorem fcsh_1 : Rows.checkSharesRow.wf (OpenSpec.ofChange Rows.checkSharesSpec) = true := by kernel_rfl
theorem fcsh_4 : Tryz.f10.params.all (Tryz.prog.readableRec ·) = true := by kernel_rfl
theorem fcsh_5 : namedTie Tryz.prog Rows.checkSharesRow.named Rows.checkSharesSpec.vars = true := by kernel_rfl
theorem fcsh_6 : (Rows.checkSharesRow.stops == []) = true := by kernel_rfl
theorem fcsh_8 : (Rows.checkSharesRow.knobs == []) = true := by kernel_rfl
theorem fcsh_10 : (Rows.checkSharesRow.inPlace == Tryz.prog.inPlace 10) = true := by kernel_rfl
theorem fcsh_11 : (Rows.checkSharesRow.unfollowed == Tryz.prog.unfollowed 10) = true := by kernel_rfl
theorem fcsh_12 : (Rows.checkSharesRow.recurses == Tryz.prog.recurses 10) = true := by kernel_rfl
theorem fcsh_13 : (Rows.checkSharesRow.named == Tryz.prog.varsNamed 10) = true := by kernel_rfl
theorem fcsh_14 : (Rows.checkSharesRow.maps == (Tryz.f10.params.toList ++ Rows.checkSharesSpec.plain.varTypes Tryz.prog).any (Tryz.prog.mapsRec ·)) = true := by kernel_rfl
theorem fcsh_15 : (Rows.checkSharesRow.ifaces == (Tryz.f10.params.toList ++ Rows.checkSharesSpec.plain.varTypes Tryz.prog).any (Tryz.prog.ifacesRec ·)) = true := by kernel_rfl
theorem fcsh_16 : (Rows.checkSharesRow.mapsOut == Tryz.prog.mapsAmong Tryz.f10.resultTypes.toList) = true := by kernel_rfl
theorem fcsh_17 : (Rows.checkSharesRow.loops == (Tryz.f10.params.toList ++ Rows.checkSharesSpec.plain.varTypes Tryz.prog).any (Tryz.prog.loopsFrom ·)) = true := by kernel_rfl
theorem fcsh_18 : (Rows.checkSharesRow.wideKeys == (Tryz.f10.params.toList ++ Rows.checkSharesSpec.plain.varTypes Tryz.prog ++ Tryz.f10.resultTypes.toList).any (Tryz.prog.wideKeysFrom ·)) = true := by kernel_rfl
theorem fcsh_19 : Rows.checkSharesSpec.vars.all (Tryz.prog.varReadable ·) = true := by kernel_rfl
theorem fcsh_20 : Tryz.f10.resultTypes.all (fun t => Tryz.prog.readableRec t && decide (t < Tryz.prog.types.size)) = true := by kernel_rfl
theorem fcsh_21 : (Rows.checkSharesRow.ifacesOut == Tryz.f10.resultTypes.toList.any (Tryz.prog.ifacesRec ·)) = true := by kernel_rfl
theorem fcsh_22 : (Rows.checkSharesRow.loopsOut == Tryz.f10.resultTypes.toList.any (Tryz.prog.loopsFrom ·)) = true := by kernel_rfl
theorem fcsh_24 : Rows.checkSharesRow.shortTexts.isNone = true := by kernel_rfl
theorem fcsh_23 : (Rows.checkSharesRow.plainKeys == Tryz.prog.plainKeys) = true := by kernel_rfl
theorem fcsh_27 : (Rows.checkSharesRow.lifted == Tryz.prog.liftsFinal) = true := by kernel_rfl
theorem fcsh_28 : (Tryz.prog.make == some Rows.checkSharesRow.make) = true := by kernel_rfl
theorem fcsh_29a : Rows.checkSharesRow.domain.isEmpty = true := by kernel_rfl
theorem fcsh_29 : (Rows.checkSharesRow.kinds == []) = true := by kernel_rfl
theorem fcsh_30 : (Rows.checkSharesRow.pinned == Rows.checkSharesRow.pinnedBy) = true := by kernel_rfl
theorem fcsh_31 : (Rows.checkSharesRow.veiled == (Tryz.f10.params.toList ++ Rows.checkSharesSpec.plain.varTypes Tryz.prog ++ Tryz.f10.resultTypes.toList).any (Tryz.prog.veiledRec ·)) = true := by kernel_rfl
theorem fcsh_32 : Rows.checkSharesRow.veiledFits Tryz.prog Tryz.f10.params.toList (Tryz.f10.params.toList ++ Rows.checkSharesSpec.plain.varTypes Tryz.prog ++ Tryz.f10.resultTypes.toList) = true := by kernel_rfl
theorem fcsh_func : Tryz.prog.funcNamed "warehouse/warehouselaw28.CheckShares" = some 10 := by kernel_rfl
theorem fcsh_inst : Tryz.f10.isInstance Tryz.prog Rows.checkSharesRow.origin Rows.checkSharesRow.targs := of_decide_eq_true (by kernel_rfl)
theorem fcsh_goes : false = Rows.checkSharesRow.goesBy Tryz.prog := by kernel_rfl
theorem fcsh_wft : Rows.checkSharesRow.wfByText (OpenSpec.ofChange Rows.checkSharesSpec) = true := by kernel_rfl
theorem fcsh_main : Tryz.prog.mainIs = some (Rows.checkSharesCard.stood.harness.1, Rows.checkSharesCard.stood.harness.2.toList) := by kernel_rfl
theorem fcsh_wants : (Tryz.f10.params.toList.all fun u => !Tryz.prog.wantsStandIn u) = true := by kernel_rfl
end Go.Proofs.YtggejcekmehocaaGreatDoor
