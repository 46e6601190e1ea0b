/-
  'joinedFacts' put together from its parts, without reading a program. The closed facts of the row inspectBack, one by one. The closed facts of the row inspectLeaves, one by one.
-/
import Derived.Test.YtggejcekmehocaaGreatDoorCards
import Derived.JoinedOf
namespace Go.Proofs.YtggejcekmehocaaGreatDoor
set_option linter.unusedVariables false
theorem joined_of (P:Program)(f:FuncId)(fn:Func)(s:ChangeSpec)(c:OpenClaim)(h1:c.wf (OpenSpec.ofChange s)=true)(h2:laidOutB P=true)(h3:mapsRowed P=true)(h4:fn.params.all (P.readableRec ·)=true)(h5:namedTie P c.named s.vars=true)(h6:(c.stops==[])=true)(h7:(P.stops==[])=true)(h8:(c.knobs==[])=true)(h9:(P.stopKnobs==[])=true)(h10:(c.inPlace==P.inPlace f)=true)(h11:(c.unfollowed==P.unfollowed f)=true)(h12:(c.recurses==P.recurses f)=true)(h13:(c.named==P.varsNamed f)=true)(h14:(c.maps==(fn.params.toList++s.plain.varTypes P).any (P.mapsRec ·))=true)(h15:(c.ifaces==(fn.params.toList++s.plain.varTypes P).any (P.ifacesRec ·))=true)(h16:(c.mapsOut==P.mapsAmong fn.resultTypes.toList)=true)(h17:(c.loops==(fn.params.toList++s.plain.varTypes P).any (P.loopsFrom ·))=true)(h18:(c.wideKeys==(fn.params.toList++s.plain.varTypes P++fn.resultTypes.toList).any (P.wideKeysFrom ·))=true)(h19:s.vars.all (P.varReadable ·)=true)(h20:fn.resultTypes.all (λt=>P.readableRec t&&decide (t<P.types.size))=true)(h21:(c.ifacesOut==fn.resultTypes.toList.any (P.ifacesRec ·))=true)(h22:(c.loopsOut==fn.resultTypes.toList.any (P.loopsFrom ·))=true)(h23:(c.plainKeys==P.plainKeys)=true)(h24:c.shortTexts.isNone=true)(h25:P.stopsHeard=true)(h26:P.mayEnter=true)(h27:(c.lifted==P.liftsFinal)=true)(h28:(P.make==some c.make)=true)(h29a:c.domain.isEmpty=true)(h29:(c.kinds==[])=true)(h30:(c.pinned==c.pinnedBy)=true)(h31:(c.veiled==(fn.params.toList++s.plain.varTypes P++fn.resultTypes.toList).any (P.veiledRec ·))=true)(h32:c.veiledFits P fn.params.toList (fn.params.toList++s.plain.varTypes P++fn.resultTypes.toList)=true):joinedFacts P f fn s c=true:=by
 unfold joinedFacts
 simp only[Bool.and_eq_true]
 have h29:(c.kinds==(if c.domain.isEmpty then [] else fn.params.toList.map λt=>match P.underlying t with|some (.int k)=>some k| _=>none))=true:=by rw[h29a];exact h29
 exact ⟨⟨⟨⟨⟨⟨⟨⟨⟨⟨⟨⟨⟨⟨⟨⟨⟨⟨⟨⟨⟨⟨⟨⟨⟨⟨⟨⟨⟨⟨⟨h1,h2⟩,h3⟩,h4⟩,h5⟩,h6⟩,h7⟩,h8⟩,h9⟩,h10⟩,h11⟩,h12⟩,h13⟩,h14⟩,h15⟩,h16⟩,h17⟩,h18⟩,h19⟩,h20⟩,h21⟩,h22⟩,h23⟩,h24⟩,h25⟩,h26⟩,h27⟩,h28⟩,h29⟩,h30⟩,h31⟩,h32⟩
theorem fcbk_1:Rows.inspectBackRow.wf (OpenSpec.ofChange Rows.inspectBackSpec)=true:=by kernel_rfl
theorem fcbk_4:Tryz.f7.params.all (Tryz.prog.readableRec ·)=true:=by kernel_rfl
theorem fcbk_5:namedTie Tryz.prog Rows.inspectBackRow.named Rows.inspectBackSpec.vars=true:=by kernel_rfl
theorem fcbk_6:(Rows.inspectBackRow.stops==[])=true:=by kernel_rfl
theorem fcbk_8:(Rows.inspectBackRow.knobs==[])=true:=by kernel_rfl
theorem fcbk_10:(Rows.inspectBackRow.inPlace==Tryz.prog.inPlace 7)=true:=by kernel_rfl
theorem fcbk_11:(Rows.inspectBackRow.unfollowed==Tryz.prog.unfollowed 7)=true:=by kernel_rfl
theorem fcbk_12:(Rows.inspectBackRow.recurses==Tryz.prog.recurses 7)=true:=by kernel_rfl
theorem fcbk_13:(Rows.inspectBackRow.named==Tryz.prog.varsNamed 7)=true:=by kernel_rfl
theorem fcbk_14:(Rows.inspectBackRow.maps==(Tryz.f7.params.toList++Rows.inspectBackSpec.plain.varTypes Tryz.prog).any (Tryz.prog.mapsRec ·))=true:=by kernel_rfl
theorem fcbk_15:(Rows.inspectBackRow.ifaces==(Tryz.f7.params.toList++Rows.inspectBackSpec.plain.varTypes Tryz.prog).any (Tryz.prog.ifacesRec ·))=true:=by kernel_rfl
theorem fcbk_16:(Rows.inspectBackRow.mapsOut==Tryz.prog.mapsAmong Tryz.f7.resultTypes.toList)=true:=by kernel_rfl
theorem fcbk_17:(Rows.inspectBackRow.loops==(Tryz.f7.params.toList++Rows.inspectBackSpec.plain.varTypes Tryz.prog).any (Tryz.prog.loopsFrom ·))=true:=by kernel_rfl
theorem fcbk_18:(Rows.inspectBackRow.wideKeys==(Tryz.f7.params.toList++Rows.inspectBackSpec.plain.varTypes Tryz.prog++Tryz.f7.resultTypes.toList).any (Tryz.prog.wideKeysFrom ·))=true:=by kernel_rfl
theorem fcbk_19:Rows.inspectBackSpec.vars.all (Tryz.prog.varReadable ·)=true:=by kernel_rfl
theorem fcbk_20:Tryz.f7.resultTypes.all (λt=>Tryz.prog.readableRec t&&decide (t<Tryz.prog.types.size))=true:=by kernel_rfl
theorem fcbk_21:(Rows.inspectBackRow.ifacesOut==Tryz.f7.resultTypes.toList.any (Tryz.prog.ifacesRec ·))=true:=by kernel_rfl
theorem fcbk_22:(Rows.inspectBackRow.loopsOut==Tryz.f7.resultTypes.toList.any (Tryz.prog.loopsFrom ·))=true:=by kernel_rfl
theorem fcbk_24:Rows.inspectBackRow.shortTexts.isNone=true:=by kernel_rfl
theorem fcbk_23:(Rows.inspectBackRow.plainKeys==Tryz.prog.plainKeys)=true:=by kernel_rfl
theorem fcbk_27:(Rows.inspectBackRow.lifted==Tryz.prog.liftsFinal)=true:=by kernel_rfl
theorem fcbk_28:(Tryz.prog.make==some Rows.inspectBackRow.make)=true:=by kernel_rfl
theorem fcbk_29a:Rows.inspectBackRow.domain.isEmpty=true:=by kernel_rfl
theorem fcbk_29:(Rows.inspectBackRow.kinds==[])=true:=by kernel_rfl
theorem fcbk_30:(Rows.inspectBackRow.pinned==Rows.inspectBackRow.pinnedBy)=true:=by kernel_rfl
theorem fcbk_31:(Rows.inspectBackRow.veiled==(Tryz.f7.params.toList++Rows.inspectBackSpec.plain.varTypes Tryz.prog++Tryz.f7.resultTypes.toList).any (Tryz.prog.veiledRec ·))=true:=by kernel_rfl
theorem fcbk_32:Rows.inspectBackRow.veiledFits Tryz.prog Tryz.f7.params.toList (Tryz.f7.params.toList++Rows.inspectBackSpec.plain.varTypes Tryz.prog++Tryz.f7.resultTypes.toList)=true:=by kernel_rfl
theorem fcbk_func:Tryz.prog.funcNamed "warehouse/warehouselaw29.InspectBack" =some 7:=by kernel_rfl
theorem fcbk_inst:Tryz.f7.isInstance Tryz.prog Rows.inspectBackRow.origin Rows.inspectBackRow.targs:=of_decide_eq_true (by kernel_rfl)
theorem fcbk_goes:false=Rows.inspectBackRow.goesBy Tryz.prog:=by kernel_rfl
theorem fcbk_wft:Rows.inspectBackRow.wfByText (OpenSpec.ofChange Rows.inspectBackSpec)=true:=by kernel_rfl
theorem fcbk_main:Tryz.prog.mainIs=some (Rows.inspectBackCard.stood.harness.1,Rows.inspectBackCard.stood.harness.2.toList):=by kernel_rfl
theorem fcbk_wants:(Tryz.f7.params.toList.all λu=>!Tryz.prog.wantsStandIn u)=true:=by kernel_rfl
theorem fclv_1:Rows.inspectLeavesRow.wf (OpenSpec.ofChange Rows.inspectLeavesSpec)=true:=by kernel_rfl
theorem fclv_4:Tryz.f6.params.all (Tryz.prog.readableRec ·)=true:=by kernel_rfl
theorem fclv_5:namedTie Tryz.prog Rows.inspectLeavesRow.named Rows.inspectLeavesSpec.vars=true:=by kernel_rfl
theorem fclv_6:(Rows.inspectLeavesRow.stops==[])=true:=by kernel_rfl
theorem fclv_8:(Rows.inspectLeavesRow.knobs==[])=true:=by kernel_rfl
theorem fclv_10:(Rows.inspectLeavesRow.inPlace==Tryz.prog.inPlace 6)=true:=by kernel_rfl
theorem fclv_11:(Rows.inspectLeavesRow.unfollowed==Tryz.prog.unfollowed 6)=true:=by kernel_rfl
theorem fclv_12:(Rows.inspectLeavesRow.recurses==Tryz.prog.recurses 6)=true:=by kernel_rfl
theorem fclv_13:(Rows.inspectLeavesRow.named==Tryz.prog.varsNamed 6)=true:=by kernel_rfl
theorem fclv_14:(Rows.inspectLeavesRow.maps==(Tryz.f6.params.toList++Rows.inspectLeavesSpec.plain.varTypes Tryz.prog).any (Tryz.prog.mapsRec ·))=true:=by kernel_rfl
theorem fclv_15:(Rows.inspectLeavesRow.ifaces==(Tryz.f6.params.toList++Rows.inspectLeavesSpec.plain.varTypes Tryz.prog).any (Tryz.prog.ifacesRec ·))=true:=by kernel_rfl
theorem fclv_16:(Rows.inspectLeavesRow.mapsOut==Tryz.prog.mapsAmong Tryz.f6.resultTypes.toList)=true:=by kernel_rfl
theorem fclv_17:(Rows.inspectLeavesRow.loops==(Tryz.f6.params.toList++Rows.inspectLeavesSpec.plain.varTypes Tryz.prog).any (Tryz.prog.loopsFrom ·))=true:=by kernel_rfl
theorem fclv_18:(Rows.inspectLeavesRow.wideKeys==(Tryz.f6.params.toList++Rows.inspectLeavesSpec.plain.varTypes Tryz.prog++Tryz.f6.resultTypes.toList).any (Tryz.prog.wideKeysFrom ·))=true:=by kernel_rfl
theorem fclv_19:Rows.inspectLeavesSpec.vars.all (Tryz.prog.varReadable ·)=true:=by kernel_rfl
theorem fclv_20:Tryz.f6.resultTypes.all (λt=>Tryz.prog.readableRec t&&decide (t<Tryz.prog.types.size))=true:=by kernel_rfl
theorem fclv_21:(Rows.inspectLeavesRow.ifacesOut==Tryz.f6.resultTypes.toList.any (Tryz.prog.ifacesRec ·))=true:=by kernel_rfl
theorem fclv_22:(Rows.inspectLeavesRow.loopsOut==Tryz.f6.resultTypes.toList.any (Tryz.prog.loopsFrom ·))=true:=by kernel_rfl
theorem fclv_24:Rows.inspectLeavesRow.shortTexts.isNone=true:=by kernel_rfl
theorem fclv_23:(Rows.inspectLeavesRow.plainKeys==Tryz.prog.plainKeys)=true:=by kernel_rfl
theorem fclv_27:(Rows.inspectLeavesRow.lifted==Tryz.prog.liftsFinal)=true:=by kernel_rfl
theorem fclv_28:(Tryz.prog.make==some Rows.inspectLeavesRow.make)=true:=by kernel_rfl
theorem fclv_29a:Rows.inspectLeavesRow.domain.isEmpty=true:=by kernel_rfl
theorem fclv_29:(Rows.inspectLeavesRow.kinds==[])=true:=by kernel_rfl
theorem fclv_30:(Rows.inspectLeavesRow.pinned==Rows.inspectLeavesRow.pinnedBy)=true:=by kernel_rfl
theorem fclv_31:(Rows.inspectLeavesRow.veiled==(Tryz.f6.params.toList++Rows.inspectLeavesSpec.plain.varTypes Tryz.prog++Tryz.f6.resultTypes.toList).any (Tryz.prog.veiledRec ·))=true:=by kernel_rfl
theorem fclv_32:Rows.inspectLeavesRow.veiledFits Tryz.prog Tryz.f6.params.toList (Tryz.f6.params.toList++Rows.inspectLeavesSpec.plain.varTypes Tryz.prog++Tryz.f6.resultTypes.toList)=true:=by kernel_rfl
theorem fclv_func:Tryz.prog.funcNamed "warehouse/warehouselaw29.InspectLeaves" =some 6:=by kernel_rfl
theorem fclv_inst:Tryz.f6.isInstance Tryz.prog Rows.inspectLeavesRow.origin Rows.inspectLeavesRow.targs:=of_decide_eq_true (by kernel_rfl)
theorem fclv_goes:false=Rows.inspectLeavesRow.goesBy Tryz.prog:=by kernel_rfl
theorem fclv_wft:Rows.inspectLeavesRow.wfByText (OpenSpec.ofChange Rows.inspectLeavesSpec)=true:=by kernel_rfl
theorem fclv_main:Tryz.prog.mainIs=some (Rows.inspectLeavesCard.stood.harness.1,Rows.inspectLeavesCard.stood.harness.2.toList):=by kernel_rfl
theorem fclv_wants:(Tryz.f6.params.toList.all λu=>!Tryz.prog.wantsStandIn u)=true:=by kernel_rfl
end Go.Proofs.YtggejcekmehocaaGreatDoor
