/-
  'joinedFacts' put together from its parts, without reading a program. The closed facts of the row quarantineWaived, one by one.
-/
import Derived.Test.YtopjjlmfilgngaaGreatDoorCards
import Derived.JoinedOf
namespace Go.Proofs.YtopjjlmfilgngaaGreatDoor
set_option linter.unusedVariables false
theorem zB (P:Program)(f:FuncId)(fn:Func)(s:ChangeSpec)(c:OpenClaim)(h1:c.wf (OpenSpec.ofChange s)=true)(h2:laidOutB P=true)(h3:mapsRowed P=true)(h4:fn.params.all (P.readableRec ·)=true)(h5:namedTie P c.named s.vars=true)(h6:(c.stops==[])=true)(h7:(P.stops==[])=true)(h8:(c.knobs==[])=true)(h9:(P.stopKnobs==[])=true)(h10:(c.inPlace==P.inPlace f)=true)(h11:(c.unfollowed==P.unfollowed f)=true)(h12:(c.recurses==P.recurses f)=true)(h13:(c.named==P.varsNamed f)=true)(JS:(c.maps==(fn.params.toList++s.plain.varTypes P).any (P.mapsRec ·))=true)(JU:(c.ifaces==(fn.params.toList++s.plain.varTypes P).any (P.ifacesRec ·))=true)(h16:(c.mapsOut==P.mapsAmong fn.resultTypes.toList)=true)(JV:(c.loops==(fn.params.toList++s.plain.varTypes P).any (P.loopsFrom ·))=true)(h18:(c.wideKeys==(fn.params.toList++s.plain.varTypes P++fn.resultTypes.toList).any (P.wideKeysFrom ·))=true)(h19:s.vars.all (P.varReadable ·)=true)(h20:fn.resultTypes.all (λt=>P.readableRec t&&decide (t<P.types.size))=true)(h21:(c.ifacesOut==fn.resultTypes.toList.any (P.ifacesRec ·))=true)(h22:(c.loopsOut==fn.resultTypes.toList.any (P.loopsFrom ·))=true)(h23:(c.plainKeys==P.plainKeys)=true)(h24:c.shortTexts.isNone=true)(h25:P.stopsHeard=true)(h26:P.mayEnter=true)(h27:(c.lifted==P.liftsFinal)=true)(h28:(P.make==some c.make)=true)(h29a:c.domain.isEmpty=true)(Lf:(c.kinds==[])=true)(h30:(c.pinned==c.pinnedBy)=true)(h31:(c.veiled==(fn.params.toList++s.plain.varTypes P++fn.resultTypes.toList).any (P.veiledRec ·))=true)(h32:c.veiledFits P fn.params.toList (fn.params.toList++s.plain.varTypes P++fn.resultTypes.toList)=true):joinedFacts P f fn s c=true:=by
 unfold joinedFacts;simp only[Bool.and_eq_true];have Lf:(c.kinds==(if c.domain.isEmpty then [] else fn.params.toList.map λt=>match P.underlying t with|some (.int k)=>some k| _=>none))=true:=by rw[h29a];exact Lf
 exact ⟨⟨⟨⟨⟨⟨⟨⟨⟨⟨⟨⟨⟨⟨⟨⟨⟨⟨⟨⟨⟨⟨⟨⟨⟨⟨⟨⟨⟨⟨⟨h1,h2⟩,h3⟩,h4⟩,h5⟩,h6⟩,h7⟩,h8⟩,h9⟩,h10⟩,h11⟩,h12⟩,h13⟩,JS⟩,JU⟩,h16⟩,JV⟩,h18⟩,h19⟩,h20⟩,h21⟩,h22⟩,h23⟩,h24⟩,h25⟩,h26⟩,h27⟩,h28⟩,Lf⟩,h30⟩,h31⟩,h32⟩
theorem FY:Rows.quarantineWaivedRow.wf (OpenSpec.ofChange Rows.quarantineWaivedSpec)=true:=by kernel_rfl
theorem FZ:Tryz.f3.params.all (Tryz.prog.readableRec ·)=true:=by kernel_rfl
theorem F3:namedTie Tryz.prog Rows.quarantineWaivedRow.named Rows.quarantineWaivedSpec.vars=true:=by kernel_rfl
theorem F4:(Rows.quarantineWaivedRow.stops==[])=true:=by kernel_rfl
theorem F5:(Rows.quarantineWaivedRow.knobs==[])=true:=by kernel_rfl
theorem Ec:(Rows.quarantineWaivedRow.inPlace==Tryz.prog.inPlace 3)=true:=by kernel_rfl
theorem Ed:(Rows.quarantineWaivedRow.unfollowed==Tryz.prog.unfollowed 3)=true:=by kernel_rfl
theorem Ee:(Rows.quarantineWaivedRow.recurses==Tryz.prog.recurses 3)=true:=by kernel_rfl
theorem Ef:(Rows.quarantineWaivedRow.named==Tryz.prog.varsNamed 3)=true:=by kernel_rfl
theorem Eg:(Rows.quarantineWaivedRow.maps==(Tryz.f3.params.toList++Rows.quarantineWaivedSpec.plain.varTypes Tryz.prog).any (Tryz.prog.mapsRec ·))=true:=by kernel_rfl
theorem Eh:(Rows.quarantineWaivedRow.ifaces==(Tryz.f3.params.toList++Rows.quarantineWaivedSpec.plain.varTypes Tryz.prog).any (Tryz.prog.ifacesRec ·))=true:=by kernel_rfl
theorem Ei:(Rows.quarantineWaivedRow.mapsOut==Tryz.prog.mapsAmong Tryz.f3.resultTypes.toList)=true:=by kernel_rfl
theorem Ej:(Rows.quarantineWaivedRow.loops==(Tryz.f3.params.toList++Rows.quarantineWaivedSpec.plain.varTypes Tryz.prog).any (Tryz.prog.loopsFrom ·))=true:=by kernel_rfl
theorem El:(Rows.quarantineWaivedRow.wideKeys==(Tryz.f3.params.toList++Rows.quarantineWaivedSpec.plain.varTypes Tryz.prog++Tryz.f3.resultTypes.toList).any (Tryz.prog.wideKeysFrom ·))=true:=by kernel_rfl
theorem Em:Rows.quarantineWaivedSpec.vars.all (Tryz.prog.varReadable ·)=true:=by kernel_rfl
theorem En:Tryz.f3.resultTypes.all (λt=>Tryz.prog.readableRec t&&decide (t<Tryz.prog.types.size))=true:=by kernel_rfl
theorem Eo:(Rows.quarantineWaivedRow.ifacesOut==Tryz.f3.resultTypes.toList.any (Tryz.prog.ifacesRec ·))=true:=by kernel_rfl
theorem Ep:(Rows.quarantineWaivedRow.loopsOut==Tryz.f3.resultTypes.toList.any (Tryz.prog.loopsFrom ·))=true:=by kernel_rfl
theorem Es:Rows.quarantineWaivedRow.shortTexts.isNone=true:=by kernel_rfl
theorem Er:(Rows.quarantineWaivedRow.plainKeys==Tryz.prog.plainKeys)=true:=by kernel_rfl
theorem Et:(Rows.quarantineWaivedRow.lifted==Tryz.prog.liftsFinal)=true:=by kernel_rfl
theorem Eu:(Tryz.prog.make==some Rows.quarantineWaivedRow.make)=true:=by kernel_rfl
theorem BB:Rows.quarantineWaivedRow.domain.isEmpty=true:=by kernel_rfl
theorem Ev:(Rows.quarantineWaivedRow.kinds==[])=true:=by kernel_rfl
theorem Ew:(Rows.quarantineWaivedRow.pinned==Rows.quarantineWaivedRow.pinnedBy)=true:=by kernel_rfl
theorem Ex:(Rows.quarantineWaivedRow.veiled==(Tryz.f3.params.toList++Rows.quarantineWaivedSpec.plain.varTypes Tryz.prog++Tryz.f3.resultTypes.toList).any (Tryz.prog.veiledRec ·))=true:=by kernel_rfl
theorem Ey:Rows.quarantineWaivedRow.veiledFits Tryz.prog Tryz.f3.params.toList (Tryz.f3.params.toList++Rows.quarantineWaivedSpec.plain.varTypes Tryz.prog++Tryz.f3.resultTypes.toList)=true:=by kernel_rfl
theorem sP:Tryz.prog.funcNamed "warehouse/warehouselaw30.QuarantineWaived" =some 3:=by kernel_rfl
theorem zl:Tryz.f3.isInstance Tryz.prog Rows.quarantineWaivedRow.origin Rows.quarantineWaivedRow.targs:=of_decide_eq_true (by kernel_rfl)
theorem zk:false=Rows.quarantineWaivedRow.goesBy Tryz.prog:=by kernel_rfl
theorem BC:Rows.quarantineWaivedRow.wfByText (OpenSpec.ofChange Rows.quarantineWaivedSpec)=true:=by kernel_rfl
theorem zm:Tryz.prog.mainIs=some (Rows.quarantineWaivedCard.stood.harness.1,Rows.quarantineWaivedCard.stood.harness.2.toList):=by kernel_rfl
theorem xD:(Tryz.f3.params.toList.all λu=>!Tryz.prog.wantsStandIn u)=true:=by kernel_rfl
end Go.Proofs.YtopjjlmfilgngaaGreatDoor
