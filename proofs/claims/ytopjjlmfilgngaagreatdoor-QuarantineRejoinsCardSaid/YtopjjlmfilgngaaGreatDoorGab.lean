/-
  'joinedFacts' put together from its parts, without reading a program. The closed facts of the row quarantineRejoins, one by one.
-/
import Derived.Test.YtopjjlmfilgngaaGreatDoorCards
import Derived.JoinedOf
namespace Go.Proofs.YtopjjlmfilgngaaGreatDoor
set_option linter.unusedVariables false
theorem Dm (P:Program)(f:FuncId)(fn:Func)(s:ChangeSpec)(c:OpenClaim)(h1:c.wf (OpenSpec.ofChange s)=true)(h2:laidOutB P=true)(h3:mapsRowed P=true)(h4:fn.params.all (P.readableRec ·)=true)(h5:namedTie P c.named s.vars=true)(h6:(c.stops==[])=true)(h7:(P.stops==[])=true)(h8:(c.knobs==[])=true)(h9:(P.stopKnobs==[])=true)(h10:(c.inPlace==P.inPlace f)=true)(h11:(c.unfollowed==P.unfollowed f)=true)(h12:(c.recurses==P.recurses f)=true)(h13:(c.named==P.varsNamed f)=true)(PG:(c.maps==(fn.params.toList++s.plain.varTypes P).any (P.mapsRec ·))=true)(PH:(c.ifaces==(fn.params.toList++s.plain.varTypes P).any (P.ifacesRec ·))=true)(h16:(c.mapsOut==P.mapsAmong fn.resultTypes.toList)=true)(PI:(c.loops==(fn.params.toList++s.plain.varTypes P).any (P.loopsFrom ·))=true)(h18:(c.wideKeys==(fn.params.toList++s.plain.varTypes P++fn.resultTypes.toList).any (P.wideKeysFrom ·))=true)(h19:s.vars.all (P.varReadable ·)=true)(h20:fn.resultTypes.all (λt=>P.readableRec t&&decide (t<P.types.size))=true)(h21:(c.ifacesOut==fn.resultTypes.toList.any (P.ifacesRec ·))=true)(h22:(c.loopsOut==fn.resultTypes.toList.any (P.loopsFrom ·))=true)(h23:(c.plainKeys==P.plainKeys)=true)(h24:c.shortTexts.isNone=true)(h25:P.stopsHeard=true)(h26:P.mayEnter=true)(h27:(c.lifted==P.liftsFinal)=true)(h28:(P.make==some c.make)=true)(h29a:c.domain.isEmpty=true)(Q9:(c.kinds==[])=true)(h30:(c.pinned==c.pinnedBy)=true)(h31:(c.veiled==(fn.params.toList++s.plain.varTypes P++fn.resultTypes.toList).any (P.veiledRec ·))=true)(h32:c.veiledFits P fn.params.toList (fn.params.toList++s.plain.varTypes P++fn.resultTypes.toList)=true):joinedFacts P f fn s c=true:=by
 unfold joinedFacts;simp only[Bool.and_eq_true];have Q9:(c.kinds==(if c.domain.isEmpty then [] else fn.params.toList.map λt=>match P.underlying t with|some (.int k)=>some k| _=>none))=true:=by rw[h29a];exact Q9
 exact ⟨⟨⟨⟨⟨⟨⟨⟨⟨⟨⟨⟨⟨⟨⟨⟨⟨⟨⟨⟨⟨⟨⟨⟨⟨⟨⟨⟨⟨⟨⟨h1,h2⟩,h3⟩,h4⟩,h5⟩,h6⟩,h7⟩,h8⟩,h9⟩,h10⟩,h11⟩,h12⟩,h13⟩,PG⟩,PH⟩,h16⟩,PI⟩,h18⟩,h19⟩,h20⟩,h21⟩,h22⟩,h23⟩,h24⟩,h25⟩,h26⟩,h27⟩,h28⟩,Q9⟩,h30⟩,h31⟩,h32⟩
theorem fcrj_1:Rows.quarantineRejoinsRow.wf (OpenSpec.ofChange Rows.quarantineRejoinsSpec)=true:=by kernel_rfl
theorem fcrj_4:Tryz.f6.params.all (Tryz.prog.readableRec ·)=true:=by kernel_rfl
theorem fcrj_5:namedTie Tryz.prog Rows.quarantineRejoinsRow.named Rows.quarantineRejoinsSpec.vars=true:=by kernel_rfl
theorem fcrj_6:(Rows.quarantineRejoinsRow.stops==[])=true:=by kernel_rfl
theorem fcrj_8:(Rows.quarantineRejoinsRow.knobs==[])=true:=by kernel_rfl
theorem fcrj_10:(Rows.quarantineRejoinsRow.inPlace==Tryz.prog.inPlace 6)=true:=by kernel_rfl
theorem fcrj_11:(Rows.quarantineRejoinsRow.unfollowed==Tryz.prog.unfollowed 6)=true:=by kernel_rfl
theorem fcrj_12:(Rows.quarantineRejoinsRow.recurses==Tryz.prog.recurses 6)=true:=by kernel_rfl
theorem fcrj_13:(Rows.quarantineRejoinsRow.named==Tryz.prog.varsNamed 6)=true:=by kernel_rfl
theorem fcrj_14:(Rows.quarantineRejoinsRow.maps==(Tryz.f6.params.toList++Rows.quarantineRejoinsSpec.plain.varTypes Tryz.prog).any (Tryz.prog.mapsRec ·))=true:=by kernel_rfl
theorem fcrj_15:(Rows.quarantineRejoinsRow.ifaces==(Tryz.f6.params.toList++Rows.quarantineRejoinsSpec.plain.varTypes Tryz.prog).any (Tryz.prog.ifacesRec ·))=true:=by kernel_rfl
theorem fcrj_16:(Rows.quarantineRejoinsRow.mapsOut==Tryz.prog.mapsAmong Tryz.f6.resultTypes.toList)=true:=by kernel_rfl
theorem fcrj_17:(Rows.quarantineRejoinsRow.loops==(Tryz.f6.params.toList++Rows.quarantineRejoinsSpec.plain.varTypes Tryz.prog).any (Tryz.prog.loopsFrom ·))=true:=by kernel_rfl
theorem fcrj_18:(Rows.quarantineRejoinsRow.wideKeys==(Tryz.f6.params.toList++Rows.quarantineRejoinsSpec.plain.varTypes Tryz.prog++Tryz.f6.resultTypes.toList).any (Tryz.prog.wideKeysFrom ·))=true:=by kernel_rfl
theorem fcrj_19:Rows.quarantineRejoinsSpec.vars.all (Tryz.prog.varReadable ·)=true:=by kernel_rfl
theorem fcrj_20:Tryz.f6.resultTypes.all (λt=>Tryz.prog.readableRec t&&decide (t<Tryz.prog.types.size))=true:=by kernel_rfl
theorem fcrj_21:(Rows.quarantineRejoinsRow.ifacesOut==Tryz.f6.resultTypes.toList.any (Tryz.prog.ifacesRec ·))=true:=by kernel_rfl
theorem fcrj_22:(Rows.quarantineRejoinsRow.loopsOut==Tryz.f6.resultTypes.toList.any (Tryz.prog.loopsFrom ·))=true:=by kernel_rfl
theorem fcrj_24:Rows.quarantineRejoinsRow.shortTexts.isNone=true:=by kernel_rfl
theorem fcrj_23:(Rows.quarantineRejoinsRow.plainKeys==Tryz.prog.plainKeys)=true:=by kernel_rfl
theorem fcrj_27:(Rows.quarantineRejoinsRow.lifted==Tryz.prog.liftsFinal)=true:=by kernel_rfl
theorem fcrj_28:(Tryz.prog.make==some Rows.quarantineRejoinsRow.make)=true:=by kernel_rfl
theorem fcrj_29a:Rows.quarantineRejoinsRow.domain.isEmpty=true:=by kernel_rfl
theorem fcrj_29:(Rows.quarantineRejoinsRow.kinds==[])=true:=by kernel_rfl
theorem fcrj_30:(Rows.quarantineRejoinsRow.pinned==Rows.quarantineRejoinsRow.pinnedBy)=true:=by kernel_rfl
theorem fcrj_31:(Rows.quarantineRejoinsRow.veiled==(Tryz.f6.params.toList++Rows.quarantineRejoinsSpec.plain.varTypes Tryz.prog++Tryz.f6.resultTypes.toList).any (Tryz.prog.veiledRec ·))=true:=by kernel_rfl
theorem fcrj_32:Rows.quarantineRejoinsRow.veiledFits Tryz.prog Tryz.f6.params.toList (Tryz.f6.params.toList++Rows.quarantineRejoinsSpec.plain.varTypes Tryz.prog++Tryz.f6.resultTypes.toList)=true:=by kernel_rfl
theorem fcrj_func:Tryz.prog.funcNamed "warehouse/warehouselaw30.QuarantineRejoins" =some 6:=by kernel_rfl
theorem fcrj_inst:Tryz.f6.isInstance Tryz.prog Rows.quarantineRejoinsRow.origin Rows.quarantineRejoinsRow.targs:=of_decide_eq_true (by kernel_rfl)
theorem fcrj_goes:false=Rows.quarantineRejoinsRow.goesBy Tryz.prog:=by kernel_rfl
theorem fcrj_wft:Rows.quarantineRejoinsRow.wfByText (OpenSpec.ofChange Rows.quarantineRejoinsSpec)=true:=by kernel_rfl
theorem fcrj_main:Tryz.prog.mainIs=some (Rows.quarantineRejoinsCard.stood.harness.1,Rows.quarantineRejoinsCard.stood.harness.2.toList):=by kernel_rfl
theorem fcrj_wants:(Tryz.f6.params.toList.all λu=>!Tryz.prog.wantsStandIn u)=true:=by kernel_rfl
end Go.Proofs.YtopjjlmfilgngaaGreatDoor
