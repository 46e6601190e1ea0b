/-
  'joinedFacts' put together from its parts, without reading a program. The closed facts of the row quarantineReasons, one by one.
-/
import Derived.Test.YtopjjlmfilgngaaGreatDoorCards
import Derived.JoinedOf
namespace Go.Proofs.YtopjjlmfilgngaaGreatDoor
set_option linter.unusedVariables false
theorem I7 (P:Program)(f:FuncId)(a:Func)(s:ChangeSpec)(c:OpenClaim)(d:c.wf (OpenSpec.ofChange s)=true)(q:laidOutB P=true)(D:mapsRowed P=true)(H:a.params.all (P.readableRec ·)=true)(I:namedTie P c.named s.vars=true)(J:(c.stops==[])=true)(K:(P.stops==[])=true)(L:(c.knobs==[])=true)(M:(P.stopKnobs==[])=true)(e:(c.inPlace==P.inPlace f)=true)(g:(c.unfollowed==P.unfollowed f)=true)(h:(c.recurses==P.recurses f)=true)(i:(c.named==P.varsNamed f)=true)(j:(c.maps==(a.params.toList++s.plain.varTypes P).any (P.mapsRec ·))=true)(l:(c.ifaces==(a.params.toList++s.plain.varTypes P).any (P.ifacesRec ·))=true)(m:(c.mapsOut==P.mapsAmong a.resultTypes.toList)=true)(n:(c.loops==(a.params.toList++s.plain.varTypes P).any (P.loopsFrom ·))=true)(o:(c.wideKeys==(a.params.toList++s.plain.varTypes P++a.resultTypes.toList).any (P.wideKeysFrom ·))=true)(p:s.vars.all (P.varReadable ·)=true)(r:a.resultTypes.all (λt=>P.readableRec t&&decide (t<P.types.size))=true)(u:(c.ifacesOut==a.resultTypes.toList.any (P.ifacesRec ·))=true)(v:(c.loopsOut==a.resultTypes.toList.any (P.loopsFrom ·))=true)(w:(c.plainKeys==P.plainKeys)=true)(x:c.shortTexts.isNone=true)(y:P.stopsHeard=true)(z:P.mayEnter=true)(A:(c.lifted==P.liftsFinal)=true)(B:(P.make==some c.make)=true)(C:c.domain.isEmpty=true)(b:(c.kinds==[])=true)(E:(c.pinned==c.pinnedBy)=true)(F:(c.veiled==(a.params.toList++s.plain.varTypes P++a.resultTypes.toList).any (P.veiledRec ·))=true)(G:c.veiledFits P a.params.toList (a.params.toList++s.plain.varTypes P++a.resultTypes.toList)=true):joinedFacts P f a s c=true:=by
 unfold joinedFacts;simp only[Bool.and_eq_true];have b:(c.kinds==(if c.domain.isEmpty then [] else a.params.toList.map λt=>match P.underlying t with|some (.int k)=>some k| _=>none))=true:=by rw[C];exact b
 exact⟨⟨⟨⟨⟨⟨⟨⟨⟨⟨⟨⟨⟨⟨⟨⟨⟨⟨⟨⟨⟨⟨⟨⟨⟨⟨⟨⟨⟨⟨⟨d,q⟩,D⟩,H⟩,I⟩,J⟩,K⟩,L⟩,M⟩,e⟩,g⟩,h⟩,i⟩,j⟩,l⟩,m⟩,n⟩,o⟩,p⟩,r⟩,u⟩,v⟩,w⟩,x⟩,y⟩,z⟩,A⟩,B⟩,b⟩,E⟩,F⟩,G⟩
theorem OP:Rows.quarantineReasonsRow.wf (OpenSpec.ofChange Rows.quarantineReasonsSpec)=true:=by kernel_rfl
theorem OQ:Tryz.f7.params.all (Tryz.prog.readableRec ·)=true:=by kernel_rfl
theorem OU:namedTie Tryz.prog Rows.quarantineReasonsRow.named Rows.quarantineReasonsSpec.vars=true:=by kernel_rfl
theorem OV:(Rows.quarantineReasonsRow.stops==[])=true:=by kernel_rfl
theorem OW:(Rows.quarantineReasonsRow.knobs==[])=true:=by kernel_rfl
theorem MZ:(Rows.quarantineReasonsRow.inPlace==Tryz.prog.inPlace 7)=true:=by kernel_rfl
theorem M0:(Rows.quarantineReasonsRow.unfollowed==Tryz.prog.unfollowed 7)=true:=by kernel_rfl
theorem M3:(Rows.quarantineReasonsRow.recurses==Tryz.prog.recurses 7)=true:=by kernel_rfl
theorem M4:(Rows.quarantineReasonsRow.named==Tryz.prog.varsNamed 7)=true:=by kernel_rfl
theorem M5:(Rows.quarantineReasonsRow.maps==(Tryz.f7.params.toList++Rows.quarantineReasonsSpec.plain.varTypes Tryz.prog).any (Tryz.prog.mapsRec ·))=true:=by kernel_rfl
theorem M6:(Rows.quarantineReasonsRow.ifaces==(Tryz.f7.params.toList++Rows.quarantineReasonsSpec.plain.varTypes Tryz.prog).any (Tryz.prog.ifacesRec ·))=true:=by kernel_rfl
theorem M7:(Rows.quarantineReasonsRow.mapsOut==Tryz.prog.mapsAmong Tryz.f7.resultTypes.toList)=true:=by kernel_rfl
theorem M8:(Rows.quarantineReasonsRow.loops==(Tryz.f7.params.toList++Rows.quarantineReasonsSpec.plain.varTypes Tryz.prog).any (Tryz.prog.loopsFrom ·))=true:=by kernel_rfl
theorem M9:(Rows.quarantineReasonsRow.wideKeys==(Tryz.f7.params.toList++Rows.quarantineReasonsSpec.plain.varTypes Tryz.prog++Tryz.f7.resultTypes.toList).any (Tryz.prog.wideKeysFrom ·))=true:=by kernel_rfl
theorem Na:Rows.quarantineReasonsSpec.vars.all (Tryz.prog.varReadable ·)=true:=by kernel_rfl
theorem Nb:Tryz.f7.resultTypes.all (λt=>Tryz.prog.readableRec t&&decide (t<Tryz.prog.types.size))=true:=by kernel_rfl
theorem Nc:(Rows.quarantineReasonsRow.ifacesOut==Tryz.f7.resultTypes.toList.any (Tryz.prog.ifacesRec ·))=true:=by kernel_rfl
theorem Nf:(Rows.quarantineReasonsRow.loopsOut==Tryz.f7.resultTypes.toList.any (Tryz.prog.loopsFrom ·))=true:=by kernel_rfl
theorem Nh:Rows.quarantineReasonsRow.shortTexts.isNone=true:=by kernel_rfl
theorem Ng:(Rows.quarantineReasonsRow.plainKeys==Tryz.prog.plainKeys)=true:=by kernel_rfl
theorem Ni:(Rows.quarantineReasonsRow.lifted==Tryz.prog.liftsFinal)=true:=by kernel_rfl
theorem Nj:(Tryz.prog.make==some Rows.quarantineReasonsRow.make)=true:=by kernel_rfl
theorem KG:Rows.quarantineReasonsRow.domain.isEmpty=true:=by kernel_rfl
theorem Nk:(Rows.quarantineReasonsRow.kinds==[])=true:=by kernel_rfl
theorem Nl:(Rows.quarantineReasonsRow.pinned==Rows.quarantineReasonsRow.pinnedBy)=true:=by kernel_rfl
theorem Nn:(Rows.quarantineReasonsRow.veiled==(Tryz.f7.params.toList++Rows.quarantineReasonsSpec.plain.varTypes Tryz.prog++Tryz.f7.resultTypes.toList).any (Tryz.prog.veiledRec ·))=true:=by kernel_rfl
theorem Np:Rows.quarantineReasonsRow.veiledFits Tryz.prog Tryz.f7.params.toList (Tryz.f7.params.toList++Rows.quarantineReasonsSpec.plain.varTypes Tryz.prog++Tryz.f7.resultTypes.toList)=true:=by kernel_rfl
theorem BF:Tryz.prog.funcNamed "warehouse/warehouselaw30.QuarantineReasons" =some 7:=by kernel_rfl
theorem IM:Tryz.f7.isInstance Tryz.prog Rows.quarantineReasonsRow.origin Rows.quarantineReasonsRow.targs:=of_decide_eq_true (by kernel_rfl)
theorem IL:false=Rows.quarantineReasonsRow.goesBy Tryz.prog:=by kernel_rfl
theorem KH:Rows.quarantineReasonsRow.wfByText (OpenSpec.ofChange Rows.quarantineReasonsSpec)=true:=by kernel_rfl
theorem IP:Tryz.prog.mainIs=some (Rows.quarantineReasonsCard.stood.harness.1,Rows.quarantineReasonsCard.stood.harness.2.toList):=by kernel_rfl
theorem FO:(Tryz.f7.params.toList.all λu=>!Tryz.prog.wantsStandIn u)=true:=by kernel_rfl
end Go.Proofs.YtopjjlmfilgngaaGreatDoor
