/-
  The closed facts of the row checkViolations, one by one.
-/
import Derived.Test.YtggejcekmehocaaGreatDoorCards
import Derived.JoinedOf
namespace Go.Proofs.YtggejcekmehocaaGreatDoor
set_option linter.unusedVariables false
theorem Q9:Rows.checkViolationsRow.wf (OpenSpec.ofChange Rows.checkViolationsSpec)=true:=by kernel_rfl
theorem Ra:Tryz.f8.params.all (Tryz.prog.readableRec ·)=true:=by kernel_rfl
theorem Rb:namedTie Tryz.prog Rows.checkViolationsRow.named Rows.checkViolationsSpec.vars=true:=by kernel_rfl
theorem Rc:(Rows.checkViolationsRow.stops==[])=true:=by kernel_rfl
theorem Re:(Rows.checkViolationsRow.knobs==[])=true:=by kernel_rfl
theorem Ov:(Rows.checkViolationsRow.inPlace==Tryz.prog.inPlace 8)=true:=by kernel_rfl
theorem Ow:(Rows.checkViolationsRow.unfollowed==Tryz.prog.unfollowed 8)=true:=by kernel_rfl
theorem Ox:(Rows.checkViolationsRow.recurses==Tryz.prog.recurses 8)=true:=by kernel_rfl
theorem Oy:(Rows.checkViolationsRow.named==Tryz.prog.varsNamed 8)=true:=by kernel_rfl
theorem Oz:(Rows.checkViolationsRow.maps==(Tryz.f8.params.toList++Rows.checkViolationsSpec.plain.varTypes Tryz.prog).any (Tryz.prog.mapsRec ·))=true:=by kernel_rfl
theorem OA:(Rows.checkViolationsRow.ifaces==(Tryz.f8.params.toList++Rows.checkViolationsSpec.plain.varTypes Tryz.prog).any (Tryz.prog.ifacesRec ·))=true:=by kernel_rfl
theorem OC:(Rows.checkViolationsRow.mapsOut==Tryz.prog.mapsAmong Tryz.f8.resultTypes.toList)=true:=by kernel_rfl
theorem OD:(Rows.checkViolationsRow.loops==(Tryz.f8.params.toList++Rows.checkViolationsSpec.plain.varTypes Tryz.prog).any (Tryz.prog.loopsFrom ·))=true:=by kernel_rfl
theorem OG:(Rows.checkViolationsRow.wideKeys==(Tryz.f8.params.toList++Rows.checkViolationsSpec.plain.varTypes Tryz.prog++Tryz.f8.resultTypes.toList).any (Tryz.prog.wideKeysFrom ·))=true:=by kernel_rfl
theorem OH:Rows.checkViolationsSpec.vars.all (Tryz.prog.varReadable ·)=true:=by kernel_rfl
theorem OI:Tryz.f8.resultTypes.all (λt=>Tryz.prog.readableRec t&&decide (t<Tryz.prog.types.size))=true:=by kernel_rfl
theorem OJ:(Rows.checkViolationsRow.ifacesOut==Tryz.f8.resultTypes.toList.any (Tryz.prog.ifacesRec ·))=true:=by kernel_rfl
theorem OM:(Rows.checkViolationsRow.loopsOut==Tryz.f8.resultTypes.toList.any (Tryz.prog.loopsFrom ·))=true:=by kernel_rfl
theorem OP:Rows.checkViolationsRow.shortTexts.isNone=true:=by kernel_rfl
theorem OO:(Rows.checkViolationsRow.plainKeys==Tryz.prog.plainKeys)=true:=by kernel_rfl
theorem OQ:(Rows.checkViolationsRow.lifted==Tryz.prog.liftsFinal)=true:=by kernel_rfl
theorem OT:(Tryz.prog.make==some Rows.checkViolationsRow.make)=true:=by kernel_rfl
theorem Lx:Rows.checkViolationsRow.domain.isEmpty=true:=by kernel_rfl
theorem OU:(Rows.checkViolationsRow.kinds==[])=true:=by kernel_rfl
theorem OV:(Rows.checkViolationsRow.pinned==Rows.checkViolationsRow.pinnedBy)=true:=by kernel_rfl
theorem OW:(Rows.checkViolationsRow.veiled==(Tryz.f8.params.toList++Rows.checkViolationsSpec.plain.varTypes Tryz.prog++Tryz.f8.resultTypes.toList).any (Tryz.prog.veiledRec ·))=true:=by kernel_rfl
theorem OX:Rows.checkViolationsRow.veiledFits Tryz.prog Tryz.f8.params.toList (Tryz.f8.params.toList++Rows.checkViolationsSpec.plain.varTypes Tryz.prog++Tryz.f8.resultTypes.toList)=true:=by kernel_rfl
theorem Bj:Tryz.prog.funcNamed "warehouse/warehouselaw28.CheckViolations" =some 8:=by kernel_rfl
theorem Jc:Tryz.f8.isInstance Tryz.prog Rows.checkViolationsRow.origin Rows.checkViolationsRow.targs:=of_decide_eq_true (by kernel_rfl)
theorem Jb:false=Rows.checkViolationsRow.goesBy Tryz.prog:=by kernel_rfl
theorem LA:Rows.checkViolationsRow.wfByText (OpenSpec.ofChange Rows.checkViolationsSpec)=true:=by kernel_rfl
theorem Jd:Tryz.prog.mainIs=some (Rows.checkViolationsCard.stood.harness.1,Rows.checkViolationsCard.stood.harness.2.toList):=by kernel_rfl
theorem F9:(Tryz.f8.params.toList.all λu=>!Tryz.prog.wantsStandIn u)=true:=by kernel_rfl
end Go.Proofs.YtggejcekmehocaaGreatDoor
