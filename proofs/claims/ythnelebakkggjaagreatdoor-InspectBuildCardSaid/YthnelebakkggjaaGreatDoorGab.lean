/-
  'joinedFacts' put together from its parts, without reading a program. The closed facts of the row inspectBuild, one by one.
-/
import Derived.Test.YthnelebakkggjaaGreatDoorCards
import Derived.JoinedOf
namespace Go.Proofs.YthnelebakkggjaaGreatDoor
set_option linter.unusedVariables false
theorem GQ (P:Program)(f:FuncId)(a:Func)(s:ChangeSpec)(c:OpenClaim)(d:c.wf (OpenSpec.ofChange s)=true)(q:laidOutB P=true)(D:mapsRowed P=true)(H:a.params.all (P.readableRec ·)=true)(I:namedTie P c.named s.vars=true)(J:(c.stops==[])=true)(K:(P.stops==[])=true)(L:(c.knobs==[])=true)(M:(P.stopKnobs==[])=true)(e:(c.inPlace==P.inPlace f)=true)(g:(c.unfollowed==P.unfollowed f)=true)(h:(c.recurses==P.recurses f)=true)(i:(c.named==P.varsNamed f)=true)(j:(c.maps==(a.params.toList++s.plain.varTypes P).any (P.mapsRec ·))=true)(l:(c.ifaces==(a.params.toList++s.plain.varTypes P).any (P.ifacesRec ·))=true)(m:(c.mapsOut==P.mapsAmong a.resultTypes.toList)=true)(n:(c.loops==(a.params.toList++s.plain.varTypes P).any (P.loopsFrom ·))=true)(o:(c.wideKeys==(a.params.toList++s.plain.varTypes P++a.resultTypes.toList).any (P.wideKeysFrom ·))=true)(p:s.vars.all (P.varReadable ·)=true)(r:a.resultTypes.all (λt=>P.readableRec t&&decide (t<P.types.size))=true)(u:(c.ifacesOut==a.resultTypes.toList.any (P.ifacesRec ·))=true)(v:(c.loopsOut==a.resultTypes.toList.any (P.loopsFrom ·))=true)(w:(c.plainKeys==P.plainKeys)=true)(x:c.shortTexts.isNone=true)(y:P.stopsHeard=true)(z:P.mayEnter=true)(A:(c.lifted==P.liftsFinal)=true)(B:(P.make==some c.make)=true)(C:c.domain.isEmpty=true)(b:(c.kinds==[])=true)(E:(c.pinned==c.pinnedBy)=true)(F:(c.veiled==(a.params.toList++s.plain.varTypes P++a.resultTypes.toList).any (P.veiledRec ·))=true)(G:c.veiledFits P a.params.toList (a.params.toList++s.plain.varTypes P++a.resultTypes.toList)=true):joinedFacts P f a s c=true:=by
 unfold joinedFacts;simp only[Bool.and_eq_true];have b:(c.kinds==(if c.domain.isEmpty then [] else a.params.toList.map λt=>match P.underlying t with|some (.int k)=>some k| _=>none))=true:=by rw[C];exact b
 exact⟨⟨⟨⟨⟨⟨⟨⟨⟨⟨⟨⟨⟨⟨⟨⟨⟨⟨⟨⟨⟨⟨⟨⟨⟨⟨⟨⟨⟨⟨⟨d,q⟩,D⟩,H⟩,I⟩,J⟩,K⟩,L⟩,M⟩,e⟩,g⟩,h⟩,i⟩,j⟩,l⟩,m⟩,n⟩,o⟩,p⟩,r⟩,u⟩,v⟩,w⟩,x⟩,y⟩,z⟩,A⟩,B⟩,b⟩,E⟩,F⟩,G⟩
theorem Mq:Rows.inspectBuildRow.wf (OpenSpec.ofChange Rows.inspectBuildSpec)=true:=by kernel_rfl
theorem Mr:Tryz.f3.params.all (Tryz.prog.readableRec ·)=true:=by kernel_rfl
theorem Ms:namedTie Tryz.prog Rows.inspectBuildRow.named Rows.inspectBuildSpec.vars=true:=by kernel_rfl
theorem Mt:(Rows.inspectBuildRow.stops==[])=true:=by kernel_rfl
theorem Mw:(Rows.inspectBuildRow.knobs==[])=true:=by kernel_rfl
theorem Ko:(Rows.inspectBuildRow.inPlace==Tryz.prog.inPlace 3)=true:=by kernel_rfl
theorem Kq:(Rows.inspectBuildRow.unfollowed==Tryz.prog.unfollowed 3)=true:=by kernel_rfl
theorem Kr:(Rows.inspectBuildRow.recurses==Tryz.prog.recurses 3)=true:=by kernel_rfl
theorem Kt:(Rows.inspectBuildRow.named==Tryz.prog.varsNamed 3)=true:=by kernel_rfl
theorem Ku:(Rows.inspectBuildRow.maps==(Tryz.f3.params.toList++Rows.inspectBuildSpec.plain.varTypes Tryz.prog).any (Tryz.prog.mapsRec ·))=true:=by kernel_rfl
theorem Kv:(Rows.inspectBuildRow.ifaces==(Tryz.f3.params.toList++Rows.inspectBuildSpec.plain.varTypes Tryz.prog).any (Tryz.prog.ifacesRec ·))=true:=by kernel_rfl
theorem Kw:(Rows.inspectBuildRow.mapsOut==Tryz.prog.mapsAmong Tryz.f3.resultTypes.toList)=true:=by kernel_rfl
theorem Ky:(Rows.inspectBuildRow.loops==(Tryz.f3.params.toList++Rows.inspectBuildSpec.plain.varTypes Tryz.prog).any (Tryz.prog.loopsFrom ·))=true:=by kernel_rfl
theorem Kz:(Rows.inspectBuildRow.wideKeys==(Tryz.f3.params.toList++Rows.inspectBuildSpec.plain.varTypes Tryz.prog++Tryz.f3.resultTypes.toList).any (Tryz.prog.wideKeysFrom ·))=true:=by kernel_rfl
theorem KA:Rows.inspectBuildSpec.vars.all (Tryz.prog.varReadable ·)=true:=by kernel_rfl
theorem KC:Tryz.f3.resultTypes.all (λt=>Tryz.prog.readableRec t&&decide (t<Tryz.prog.types.size))=true:=by kernel_rfl
theorem KD:(Rows.inspectBuildRow.ifacesOut==Tryz.f3.resultTypes.toList.any (Tryz.prog.ifacesRec ·))=true:=by kernel_rfl
theorem KE:(Rows.inspectBuildRow.loopsOut==Tryz.f3.resultTypes.toList.any (Tryz.prog.loopsFrom ·))=true:=by kernel_rfl
theorem KG:Rows.inspectBuildRow.shortTexts.isNone=true:=by kernel_rfl
theorem KF:(Rows.inspectBuildRow.plainKeys==Tryz.prog.plainKeys)=true:=by kernel_rfl
theorem KH:(Rows.inspectBuildRow.lifted==Tryz.prog.liftsFinal)=true:=by kernel_rfl
theorem KI:(Tryz.prog.make==some Rows.inspectBuildRow.make)=true:=by kernel_rfl
theorem IZ:Rows.inspectBuildRow.domain.isEmpty=true:=by kernel_rfl
theorem KL:(Rows.inspectBuildRow.kinds==[])=true:=by kernel_rfl
theorem KM:(Rows.inspectBuildRow.pinned==Rows.inspectBuildRow.pinnedBy)=true:=by kernel_rfl
theorem KP:(Rows.inspectBuildRow.veiled==(Tryz.f3.params.toList++Rows.inspectBuildSpec.plain.varTypes Tryz.prog++Tryz.f3.resultTypes.toList).any (Tryz.prog.veiledRec ·))=true:=by kernel_rfl
theorem KQ:Rows.inspectBuildRow.veiledFits Tryz.prog Tryz.f3.params.toList (Tryz.f3.params.toList++Rows.inspectBuildSpec.plain.varTypes Tryz.prog++Tryz.f3.resultTypes.toList)=true:=by kernel_rfl
theorem AP:Tryz.prog.funcNamed "warehouse/warehouselaw29.InspectBuild" =some 3:=by kernel_rfl
theorem Gu:Tryz.f3.isInstance Tryz.prog Rows.inspectBuildRow.origin Rows.inspectBuildRow.targs:=of_decide_eq_true (by kernel_rfl)
theorem Gt:false=Rows.inspectBuildRow.goesBy Tryz.prog:=by kernel_rfl
theorem I4:Rows.inspectBuildRow.wfByText (OpenSpec.ofChange Rows.inspectBuildSpec)=true:=by kernel_rfl
theorem Gv:Tryz.prog.mainIs=some (Rows.inspectBuildCard.stood.harness.1,Rows.inspectBuildCard.stood.harness.2.toList):=by kernel_rfl
theorem EI:(Tryz.f3.params.toList.all λu=>!Tryz.prog.wantsStandIn u)=true:=by kernel_rfl
end Go.Proofs.YthnelebakkggjaaGreatDoor
