/-
  'joinedFacts' put together from its parts, without reading a program. The closed facts of the row quarantineWaives, one by one.
-/
import Derived.Test.YtopjjlmfilgngaaGreatDoorCards
import Derived.JoinedOf
namespace Go.Proofs.YtopjjlmfilgngaaGreatDoor
set_option linter.unusedVariables false
theorem Ku (P:Program)(f:FuncId)(fn:Func)(s:ChangeSpec)(c:OpenClaim)(h1:c.wf (OpenSpec.ofChange s)=true)(h2:laidOutB P=true)(h3:mapsRowed P=true)(h4:fn.params.all (P.readableRec ·)=true)(h5:namedTie P c.named s.vars=true)(h6:(c.stops==[])=true)(h7:(P.stops==[])=true)(h8:(c.knobs==[])=true)(h9:(P.stopKnobs==[])=true)(h10:(c.inPlace==P.inPlace f)=true)(h11:(c.unfollowed==P.unfollowed f)=true)(h12:(c.recurses==P.recurses f)=true)(Cq:(c.named==P.varsNamed f)=true)(za:(c.maps==(fn.params.toList++s.plain.varTypes P).any (P.mapsRec ·))=true)(XO:(c.ifaces==(fn.params.toList++s.plain.varTypes P).any (P.ifacesRec ·))=true)(h16:(c.mapsOut==P.mapsAmong fn.resultTypes.toList)=true)(XP:(c.loops==(fn.params.toList++s.plain.varTypes P).any (P.loopsFrom ·))=true)(h18:(c.wideKeys==(fn.params.toList++s.plain.varTypes P++fn.resultTypes.toList).any (P.wideKeysFrom ·))=true)(h19:s.vars.all (P.varReadable ·)=true)(h20:fn.resultTypes.all (λt=>P.readableRec t&&decide (t<P.types.size))=true)(h21:(c.ifacesOut==fn.resultTypes.toList.any (P.ifacesRec ·))=true)(h22:(c.loopsOut==fn.resultTypes.toList.any (P.loopsFrom ·))=true)(h23:(c.plainKeys==P.plainKeys)=true)(h24:c.shortTexts.isNone=true)(h25:P.stopsHeard=true)(h26:P.mayEnter=true)(h27:(c.lifted==P.liftsFinal)=true)(h28:(P.make==some c.make)=true)(h29a:c.domain.isEmpty=true)(ZF:(c.kinds==[])=true)(h30:(c.pinned==c.pinnedBy)=true)(h31:(c.veiled==(fn.params.toList++s.plain.varTypes P++fn.resultTypes.toList).any (P.veiledRec ·))=true)(h32:c.veiledFits P fn.params.toList (fn.params.toList++s.plain.varTypes P++fn.resultTypes.toList)=true):joinedFacts P f fn s c=true:=by
 unfold joinedFacts;simp only[Bool.and_eq_true];have ZF:(c.kinds==(if c.domain.isEmpty then [] else fn.params.toList.map λt=>match P.underlying t with|some (.int k)=>some k| _=>none))=true:=by rw[h29a];exact ZF
 exact ⟨⟨⟨⟨⟨⟨⟨⟨⟨⟨⟨⟨⟨⟨⟨⟨⟨⟨⟨⟨⟨⟨⟨⟨⟨⟨⟨⟨⟨⟨⟨h1,h2⟩,h3⟩,h4⟩,h5⟩,h6⟩,h7⟩,h8⟩,h9⟩,h10⟩,h11⟩,h12⟩,Cq⟩,za⟩,XO⟩,h16⟩,XP⟩,h18⟩,h19⟩,h20⟩,h21⟩,h22⟩,h23⟩,h24⟩,h25⟩,h26⟩,h27⟩,h28⟩,ZF⟩,h30⟩,h31⟩,h32⟩
theorem Tu:Rows.quarantineWaivesRow.wf (OpenSpec.ofChange Rows.quarantineWaivesSpec)=true:=by kernel_rfl
theorem Tv:Tryz.f4.params.all (Tryz.prog.readableRec ·)=true:=by kernel_rfl
theorem Tw:namedTie Tryz.prog Rows.quarantineWaivesRow.named Rows.quarantineWaivesSpec.vars=true:=by kernel_rfl
theorem Tx:(Rows.quarantineWaivesRow.stops==[])=true:=by kernel_rfl
theorem Ty:(Rows.quarantineWaivesRow.knobs==[])=true:=by kernel_rfl
theorem Qo:(Rows.quarantineWaivesRow.inPlace==Tryz.prog.inPlace 4)=true:=by kernel_rfl
theorem Qp:(Rows.quarantineWaivesRow.unfollowed==Tryz.prog.unfollowed 4)=true:=by kernel_rfl
theorem Qq:(Rows.quarantineWaivesRow.recurses==Tryz.prog.recurses 4)=true:=by kernel_rfl
theorem Qr:(Rows.quarantineWaivesRow.named==Tryz.prog.varsNamed 4)=true:=by kernel_rfl
theorem Qs:(Rows.quarantineWaivesRow.maps==(Tryz.f4.params.toList++Rows.quarantineWaivesSpec.plain.varTypes Tryz.prog).any (Tryz.prog.mapsRec ·))=true:=by kernel_rfl
theorem Qt:(Rows.quarantineWaivesRow.ifaces==(Tryz.f4.params.toList++Rows.quarantineWaivesSpec.plain.varTypes Tryz.prog).any (Tryz.prog.ifacesRec ·))=true:=by kernel_rfl
theorem Qu:(Rows.quarantineWaivesRow.mapsOut==Tryz.prog.mapsAmong Tryz.f4.resultTypes.toList)=true:=by kernel_rfl
theorem Qv:(Rows.quarantineWaivesRow.loops==(Tryz.f4.params.toList++Rows.quarantineWaivesSpec.plain.varTypes Tryz.prog).any (Tryz.prog.loopsFrom ·))=true:=by kernel_rfl
theorem Qw:(Rows.quarantineWaivesRow.wideKeys==(Tryz.f4.params.toList++Rows.quarantineWaivesSpec.plain.varTypes Tryz.prog++Tryz.f4.resultTypes.toList).any (Tryz.prog.wideKeysFrom ·))=true:=by kernel_rfl
theorem Qx:Rows.quarantineWaivesSpec.vars.all (Tryz.prog.varReadable ·)=true:=by kernel_rfl
theorem Qy:Tryz.f4.resultTypes.all (λt=>Tryz.prog.readableRec t&&decide (t<Tryz.prog.types.size))=true:=by kernel_rfl
theorem Qz:(Rows.quarantineWaivesRow.ifacesOut==Tryz.f4.resultTypes.toList.any (Tryz.prog.ifacesRec ·))=true:=by kernel_rfl
theorem QA:(Rows.quarantineWaivesRow.loopsOut==Tryz.f4.resultTypes.toList.any (Tryz.prog.loopsFrom ·))=true:=by kernel_rfl
theorem QC:Rows.quarantineWaivesRow.shortTexts.isNone=true:=by kernel_rfl
theorem QB:(Rows.quarantineWaivesRow.plainKeys==Tryz.prog.plainKeys)=true:=by kernel_rfl
theorem QD:(Rows.quarantineWaivesRow.lifted==Tryz.prog.liftsFinal)=true:=by kernel_rfl
theorem QE:(Tryz.prog.make==some Rows.quarantineWaivesRow.make)=true:=by kernel_rfl
theorem M9:Rows.quarantineWaivesRow.domain.isEmpty=true:=by kernel_rfl
theorem QF:(Rows.quarantineWaivesRow.kinds==[])=true:=by kernel_rfl
theorem QG:(Rows.quarantineWaivesRow.pinned==Rows.quarantineWaivesRow.pinnedBy)=true:=by kernel_rfl
theorem QH:(Rows.quarantineWaivesRow.veiled==(Tryz.f4.params.toList++Rows.quarantineWaivesSpec.plain.varTypes Tryz.prog++Tryz.f4.resultTypes.toList).any (Tryz.prog.veiledRec ·))=true:=by kernel_rfl
theorem QI:Rows.quarantineWaivesRow.veiledFits Tryz.prog Tryz.f4.params.toList (Tryz.f4.params.toList++Rows.quarantineWaivesSpec.plain.varTypes Tryz.prog++Tryz.f4.resultTypes.toList)=true:=by kernel_rfl
theorem Cg:Tryz.prog.funcNamed "warehouse/warehouselaw30.QuarantineWaives" =some 4:=by kernel_rfl
theorem Kb:Tryz.f4.isInstance Tryz.prog Rows.quarantineWaivesRow.origin Rows.quarantineWaivesRow.targs:=of_decide_eq_true (by kernel_rfl)
theorem Ka:false=Rows.quarantineWaivesRow.goesBy Tryz.prog:=by kernel_rfl
theorem Na:Rows.quarantineWaivesRow.wfByText (OpenSpec.ofChange Rows.quarantineWaivesSpec)=true:=by kernel_rfl
theorem Kc:Tryz.prog.mainIs=some (Rows.quarantineWaivesCard.stood.harness.1,Rows.quarantineWaivesCard.stood.harness.2.toList):=by kernel_rfl
theorem G9:(Tryz.f4.params.toList.all λu=>!Tryz.prog.wantsStandIn u)=true:=by kernel_rfl
end Go.Proofs.YtopjjlmfilgngaaGreatDoor
