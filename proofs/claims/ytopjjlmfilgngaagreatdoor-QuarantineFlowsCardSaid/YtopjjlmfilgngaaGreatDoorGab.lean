/-
  'joinedFacts' put together from its parts, without reading a program. The closed facts of the row quarantineFlows, one by one.
-/
import Derived.Test.YtopjjlmfilgngaaGreatDoorCards
import Derived.JoinedOf
namespace Go.Proofs.YtopjjlmfilgngaaGreatDoor
set_option linter.unusedVariables false
theorem Dm (P:Program)(f:FuncId)(fn:Func)(s:ChangeSpec)(c:OpenClaim)(h1:c.wf (OpenSpec.ofChange s)=true)(h2:laidOutB P=true)(h3:mapsRowed P=true)(h4:fn.params.all (P.readableRec ·)=true)(h5:namedTie P c.named s.vars=true)(h6:(c.stops==[])=true)(h7:(P.stops==[])=true)(h8:(c.knobs==[])=true)(h9:(P.stopKnobs==[])=true)(h10:(c.inPlace==P.inPlace f)=true)(h11:(c.unfollowed==P.unfollowed f)=true)(h12:(c.recurses==P.recurses f)=true)(h13:(c.named==P.varsNamed f)=true)(PG:(c.maps==(fn.params.toList++s.plain.varTypes P).any (P.mapsRec ·))=true)(PH:(c.ifaces==(fn.params.toList++s.plain.varTypes P).any (P.ifacesRec ·))=true)(h16:(c.mapsOut==P.mapsAmong fn.resultTypes.toList)=true)(PI:(c.loops==(fn.params.toList++s.plain.varTypes P).any (P.loopsFrom ·))=true)(h18:(c.wideKeys==(fn.params.toList++s.plain.varTypes P++fn.resultTypes.toList).any (P.wideKeysFrom ·))=true)(h19:s.vars.all (P.varReadable ·)=true)(h20:fn.resultTypes.all (λt=>P.readableRec t&&decide (t<P.types.size))=true)(h21:(c.ifacesOut==fn.resultTypes.toList.any (P.ifacesRec ·))=true)(h22:(c.loopsOut==fn.resultTypes.toList.any (P.loopsFrom ·))=true)(h23:(c.plainKeys==P.plainKeys)=true)(h24:c.shortTexts.isNone=true)(h25:P.stopsHeard=true)(h26:P.mayEnter=true)(h27:(c.lifted==P.liftsFinal)=true)(h28:(P.make==some c.make)=true)(h29a:c.domain.isEmpty=true)(Q9:(c.kinds==[])=true)(h30:(c.pinned==c.pinnedBy)=true)(h31:(c.veiled==(fn.params.toList++s.plain.varTypes P++fn.resultTypes.toList).any (P.veiledRec ·))=true)(h32:c.veiledFits P fn.params.toList (fn.params.toList++s.plain.varTypes P++fn.resultTypes.toList)=true):joinedFacts P f fn s c=true:=by
 unfold joinedFacts;simp only[Bool.and_eq_true];have Q9:(c.kinds==(if c.domain.isEmpty then [] else fn.params.toList.map λt=>match P.underlying t with|some (.int k)=>some k| _=>none))=true:=by rw[h29a];exact Q9
 exact ⟨⟨⟨⟨⟨⟨⟨⟨⟨⟨⟨⟨⟨⟨⟨⟨⟨⟨⟨⟨⟨⟨⟨⟨⟨⟨⟨⟨⟨⟨⟨h1,h2⟩,h3⟩,h4⟩,h5⟩,h6⟩,h7⟩,h8⟩,h9⟩,h10⟩,h11⟩,h12⟩,h13⟩,PG⟩,PH⟩,h16⟩,PI⟩,h18⟩,h19⟩,h20⟩,h21⟩,h22⟩,h23⟩,h24⟩,h25⟩,h26⟩,h27⟩,h28⟩,Q9⟩,h30⟩,h31⟩,h32⟩
theorem Ll:Rows.quarantineFlowsRow.wf (OpenSpec.ofChange Rows.quarantineFlowsSpec)=true:=by kernel_rfl
theorem Lm:Tryz.f5.params.all (Tryz.prog.readableRec ·)=true:=by kernel_rfl
theorem Lp:namedTie Tryz.prog Rows.quarantineFlowsRow.named Rows.quarantineFlowsSpec.vars=true:=by kernel_rfl
theorem Lr:(Rows.quarantineFlowsRow.stops==[])=true:=by kernel_rfl
theorem Ls:(Rows.quarantineFlowsRow.knobs==[])=true:=by kernel_rfl
theorem IV:(Rows.quarantineFlowsRow.inPlace==Tryz.prog.inPlace 5)=true:=by kernel_rfl
theorem IW:(Rows.quarantineFlowsRow.unfollowed==Tryz.prog.unfollowed 5)=true:=by kernel_rfl
theorem IX:(Rows.quarantineFlowsRow.recurses==Tryz.prog.recurses 5)=true:=by kernel_rfl
theorem IY:(Rows.quarantineFlowsRow.named==Tryz.prog.varsNamed 5)=true:=by kernel_rfl
theorem IZ:(Rows.quarantineFlowsRow.maps==(Tryz.f5.params.toList++Rows.quarantineFlowsSpec.plain.varTypes Tryz.prog).any (Tryz.prog.mapsRec ·))=true:=by kernel_rfl
theorem I4:(Rows.quarantineFlowsRow.ifaces==(Tryz.f5.params.toList++Rows.quarantineFlowsSpec.plain.varTypes Tryz.prog).any (Tryz.prog.ifacesRec ·))=true:=by kernel_rfl
theorem I5:(Rows.quarantineFlowsRow.mapsOut==Tryz.prog.mapsAmong Tryz.f5.resultTypes.toList)=true:=by kernel_rfl
theorem I6:(Rows.quarantineFlowsRow.loops==(Tryz.f5.params.toList++Rows.quarantineFlowsSpec.plain.varTypes Tryz.prog).any (Tryz.prog.loopsFrom ·))=true:=by kernel_rfl
theorem I7:(Rows.quarantineFlowsRow.wideKeys==(Tryz.f5.params.toList++Rows.quarantineFlowsSpec.plain.varTypes Tryz.prog++Tryz.f5.resultTypes.toList).any (Tryz.prog.wideKeysFrom ·))=true:=by kernel_rfl
theorem I8:Rows.quarantineFlowsSpec.vars.all (Tryz.prog.varReadable ·)=true:=by kernel_rfl
theorem I9:Tryz.f5.resultTypes.all (λt=>Tryz.prog.readableRec t&&decide (t<Tryz.prog.types.size))=true:=by kernel_rfl
theorem Ja:(Rows.quarantineFlowsRow.ifacesOut==Tryz.f5.resultTypes.toList.any (Tryz.prog.ifacesRec ·))=true:=by kernel_rfl
theorem Jb:(Rows.quarantineFlowsRow.loopsOut==Tryz.f5.resultTypes.toList.any (Tryz.prog.loopsFrom ·))=true:=by kernel_rfl
theorem Jd:Rows.quarantineFlowsRow.shortTexts.isNone=true:=by kernel_rfl
theorem Jc:(Rows.quarantineFlowsRow.plainKeys==Tryz.prog.plainKeys)=true:=by kernel_rfl
theorem Je:(Rows.quarantineFlowsRow.lifted==Tryz.prog.liftsFinal)=true:=by kernel_rfl
theorem Jf:(Tryz.prog.make==some Rows.quarantineFlowsRow.make)=true:=by kernel_rfl
theorem Fa:Rows.quarantineFlowsRow.domain.isEmpty=true:=by kernel_rfl
theorem Jg:(Rows.quarantineFlowsRow.kinds==[])=true:=by kernel_rfl
theorem Jh:(Rows.quarantineFlowsRow.pinned==Rows.quarantineFlowsRow.pinnedBy)=true:=by kernel_rfl
theorem Ji:(Rows.quarantineFlowsRow.veiled==(Tryz.f5.params.toList++Rows.quarantineFlowsSpec.plain.varTypes Tryz.prog++Tryz.f5.resultTypes.toList).any (Tryz.prog.veiledRec ·))=true:=by kernel_rfl
theorem Jj:Rows.quarantineFlowsRow.veiledFits Tryz.prog Tryz.f5.params.toList (Tryz.f5.params.toList++Rows.quarantineFlowsSpec.plain.varTypes Tryz.prog++Tryz.f5.resultTypes.toList)=true:=by kernel_rfl
theorem vN:Tryz.prog.funcNamed "warehouse/warehouselaw30.QuarantineFlows" =some 5:=by kernel_rfl
theorem C9:Tryz.f5.isInstance Tryz.prog Rows.quarantineFlowsRow.origin Rows.quarantineFlowsRow.targs:=of_decide_eq_true (by kernel_rfl)
theorem C8:false=Rows.quarantineFlowsRow.goesBy Tryz.prog:=by kernel_rfl
theorem Fb:Rows.quarantineFlowsRow.wfByText (OpenSpec.ofChange Rows.quarantineFlowsSpec)=true:=by kernel_rfl
theorem Da:Tryz.prog.mainIs=some (Rows.quarantineFlowsCard.stood.harness.1,Rows.quarantineFlowsCard.stood.harness.2.toList):=by kernel_rfl
theorem AR:(Tryz.f5.params.toList.all λu=>!Tryz.prog.wantsStandIn u)=true:=by kernel_rfl
end Go.Proofs.YtopjjlmfilgngaaGreatDoor
