/-
  'joinedFacts' put together from its parts, without reading a program. The closed facts of the row inspectMaintains, one by one.
-/
import Derived.Test.YtggejcekmehocaaGreatDoorCards
import Derived.JoinedOf
namespace Go.Proofs.YtggejcekmehocaaGreatDoor
set_option linter.unusedVariables false
theorem JB (P:Program)(f:FuncId)(fn:Func)(s:ChangeSpec)(c:OpenClaim)(h1:c.wf (OpenSpec.ofChange s)=true)(h2:laidOutB P=true)(h3:mapsRowed P=true)(h4:fn.params.all (P.readableRec ·)=true)(h5:namedTie P c.named s.vars=true)(h6:(c.stops==[])=true)(h7:(P.stops==[])=true)(h8:(c.knobs==[])=true)(h9:(P.stopKnobs==[])=true)(h10:(c.inPlace==P.inPlace f)=true)(h11:(c.unfollowed==P.unfollowed f)=true)(h12:(c.recurses==P.recurses f)=true)(h13:(c.named==P.varsNamed f)=true)(Vu:(c.maps==(fn.params.toList++s.plain.varTypes P).any (P.mapsRec ·))=true)(Vv:(c.ifaces==(fn.params.toList++s.plain.varTypes P).any (P.ifacesRec ·))=true)(h16:(c.mapsOut==P.mapsAmong fn.resultTypes.toList)=true)(Vw:(c.loops==(fn.params.toList++s.plain.varTypes P).any (P.loopsFrom ·))=true)(h18:(c.wideKeys==(fn.params.toList++s.plain.varTypes P++fn.resultTypes.toList).any (P.wideKeysFrom ·))=true)(h19:s.vars.all (P.varReadable ·)=true)(h20:fn.resultTypes.all (λt=>P.readableRec t&&decide (t<P.types.size))=true)(h21:(c.ifacesOut==fn.resultTypes.toList.any (P.ifacesRec ·))=true)(h22:(c.loopsOut==fn.resultTypes.toList.any (P.loopsFrom ·))=true)(h23:(c.plainKeys==P.plainKeys)=true)(h24:c.shortTexts.isNone=true)(h25:P.stopsHeard=true)(h26:P.mayEnter=true)(h27:(c.lifted==P.liftsFinal)=true)(h28:(P.make==some c.make)=true)(h29a:c.domain.isEmpty=true)(Xw:(c.kinds==[])=true)(h30:(c.pinned==c.pinnedBy)=true)(h31:(c.veiled==(fn.params.toList++s.plain.varTypes P++fn.resultTypes.toList).any (P.veiledRec ·))=true)(h32:c.veiledFits P fn.params.toList (fn.params.toList++s.plain.varTypes P++fn.resultTypes.toList)=true):joinedFacts P f fn s c=true:=by
 unfold joinedFacts;simp only[Bool.and_eq_true];have Xw:(c.kinds==(if c.domain.isEmpty then [] else fn.params.toList.map λt=>match P.underlying t with|some (.int k)=>some k| _=>none))=true:=by rw[h29a];exact Xw
 exact ⟨⟨⟨⟨⟨⟨⟨⟨⟨⟨⟨⟨⟨⟨⟨⟨⟨⟨⟨⟨⟨⟨⟨⟨⟨⟨⟨⟨⟨⟨⟨h1,h2⟩,h3⟩,h4⟩,h5⟩,h6⟩,h7⟩,h8⟩,h9⟩,h10⟩,h11⟩,h12⟩,h13⟩,Vu⟩,Vv⟩,h16⟩,Vw⟩,h18⟩,h19⟩,h20⟩,h21⟩,h22⟩,h23⟩,h24⟩,h25⟩,h26⟩,h27⟩,h28⟩,Xw⟩,h30⟩,h31⟩,h32⟩
theorem Rp:Rows.inspectMaintainsRow.wf (OpenSpec.ofChange Rows.inspectMaintainsSpec)=true:=by kernel_rfl
theorem Rq:Tryz.f5.params.all (Tryz.prog.readableRec ·)=true:=by kernel_rfl
theorem Rs:namedTie Tryz.prog Rows.inspectMaintainsRow.named Rows.inspectMaintainsSpec.vars=true:=by kernel_rfl
theorem Rt:(Rows.inspectMaintainsRow.stops==[])=true:=by kernel_rfl
theorem Ru:(Rows.inspectMaintainsRow.knobs==[])=true:=by kernel_rfl
theorem OA:(Rows.inspectMaintainsRow.inPlace==Tryz.prog.inPlace 5)=true:=by kernel_rfl
theorem OC:(Rows.inspectMaintainsRow.unfollowed==Tryz.prog.unfollowed 5)=true:=by kernel_rfl
theorem OD:(Rows.inspectMaintainsRow.recurses==Tryz.prog.recurses 5)=true:=by kernel_rfl
theorem OG:(Rows.inspectMaintainsRow.named==Tryz.prog.varsNamed 5)=true:=by kernel_rfl
theorem OH:(Rows.inspectMaintainsRow.maps==(Tryz.f5.params.toList++Rows.inspectMaintainsSpec.plain.varTypes Tryz.prog).any (Tryz.prog.mapsRec ·))=true:=by kernel_rfl
theorem OI:(Rows.inspectMaintainsRow.ifaces==(Tryz.f5.params.toList++Rows.inspectMaintainsSpec.plain.varTypes Tryz.prog).any (Tryz.prog.ifacesRec ·))=true:=by kernel_rfl
theorem OJ:(Rows.inspectMaintainsRow.mapsOut==Tryz.prog.mapsAmong Tryz.f5.resultTypes.toList)=true:=by kernel_rfl
theorem OM:(Rows.inspectMaintainsRow.loops==(Tryz.f5.params.toList++Rows.inspectMaintainsSpec.plain.varTypes Tryz.prog).any (Tryz.prog.loopsFrom ·))=true:=by kernel_rfl
theorem OO:(Rows.inspectMaintainsRow.wideKeys==(Tryz.f5.params.toList++Rows.inspectMaintainsSpec.plain.varTypes Tryz.prog++Tryz.f5.resultTypes.toList).any (Tryz.prog.wideKeysFrom ·))=true:=by kernel_rfl
theorem OP:Rows.inspectMaintainsSpec.vars.all (Tryz.prog.varReadable ·)=true:=by kernel_rfl
theorem OQ:Tryz.f5.resultTypes.all (λt=>Tryz.prog.readableRec t&&decide (t<Tryz.prog.types.size))=true:=by kernel_rfl
theorem OT:(Rows.inspectMaintainsRow.ifacesOut==Tryz.f5.resultTypes.toList.any (Tryz.prog.ifacesRec ·))=true:=by kernel_rfl
theorem OU:(Rows.inspectMaintainsRow.loopsOut==Tryz.f5.resultTypes.toList.any (Tryz.prog.loopsFrom ·))=true:=by kernel_rfl
theorem OW:Rows.inspectMaintainsRow.shortTexts.isNone=true:=by kernel_rfl
theorem OV:(Rows.inspectMaintainsRow.plainKeys==Tryz.prog.plainKeys)=true:=by kernel_rfl
theorem OX:(Rows.inspectMaintainsRow.lifted==Tryz.prog.liftsFinal)=true:=by kernel_rfl
theorem OY:(Tryz.prog.make==some Rows.inspectMaintainsRow.make)=true:=by kernel_rfl
theorem Lr:Rows.inspectMaintainsRow.domain.isEmpty=true:=by kernel_rfl
theorem OZ:(Rows.inspectMaintainsRow.kinds==[])=true:=by kernel_rfl
theorem O0:(Rows.inspectMaintainsRow.pinned==Rows.inspectMaintainsRow.pinnedBy)=true:=by kernel_rfl
theorem O1:(Rows.inspectMaintainsRow.veiled==(Tryz.f5.params.toList++Rows.inspectMaintainsSpec.plain.varTypes Tryz.prog++Tryz.f5.resultTypes.toList).any (Tryz.prog.veiledRec ·))=true:=by kernel_rfl
theorem O3:Rows.inspectMaintainsRow.veiledFits Tryz.prog Tryz.f5.params.toList (Tryz.f5.params.toList++Rows.inspectMaintainsSpec.plain.varTypes Tryz.prog++Tryz.f5.resultTypes.toList)=true:=by kernel_rfl
theorem BA:Tryz.prog.funcNamed "warehouse/warehouselaw29.InspectMaintains" =some 5:=by kernel_rfl
theorem Jg:Tryz.f5.isInstance Tryz.prog Rows.inspectMaintainsRow.origin Rows.inspectMaintainsRow.targs:=of_decide_eq_true (by kernel_rfl)
theorem Jf:false=Rows.inspectMaintainsRow.goesBy Tryz.prog:=by kernel_rfl
theorem Ls:Rows.inspectMaintainsRow.wfByText (OpenSpec.ofChange Rows.inspectMaintainsSpec)=true:=by kernel_rfl
theorem Jh:Tryz.prog.mainIs=some (Rows.inspectMaintainsCard.stood.harness.1,Rows.inspectMaintainsCard.stood.harness.2.toList):=by kernel_rfl
theorem Gu:(Tryz.f5.params.toList.all λu=>!Tryz.prog.wantsStandIn u)=true:=by kernel_rfl
end Go.Proofs.YtggejcekmehocaaGreatDoor
