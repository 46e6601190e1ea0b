/-
  For every input the law InspectBuild returns true, and its arguments read as they did; the listed variable (the reserved words) is tied to the program's text.
-/
import Derived.Test.YthnelebakkggjaaGreatDoorGar
import Derived.Test.YthnelebakkggjaaGreatDoorGab
import Derived.Test.YthnelebakkggjaaGreatDoorFcP
import Derived.Test.YthnelebakkggjaaGreatDoorLwIb
namespace Go.Proofs.YthnelebakkggjaaGreatDoor
set_option maxRecDepth 100000
open Go.ChangeShapes Go.WideShapes Go.ChangeAt Go.RowKit Go.WideElems
set_option linter.unusedVariables false
set_option linter.unusedSimpArgs false
theorem Dq (c:Os)(started:c.Started)(H:Type)(enc:TypeId×Value->H):
  ReturnsInHanded {} Tryz.checked c 3 .any (λw args=>(Rows.inspectBuildSpec.pre enc Tryz.prog Tryz.f3 [] false w args/\laidMetH Tryz.prog Dj w)/\sizedMet enc Tryz.prog Tryz.f3 (OpenSpec.ofChange Rows.inspectBuildSpec) false w args)
   (Rows.inspectBuildSpec.post enc Tryz.prog Tryz.f3 false true false false):=by
 refine returnsInHanded_of_change_and (C:=Tryz.checked) (X:=λw _=>laidMetH Tryz.prog Dj w) (λ_ _ _ hh h=>h.of_heap hh) own started (by kernel_rfl) Tryz.func3
  (ChangeSpec.witness_shaped (enc:=enc) (C:=Tryz.checked) (os:=c) (X:=λw _=>laidMetH Tryz.prog Dj w) false (World.doorLaid Tryz.prog 14 c) #[.agg #[.string ⟨#[]⟩,.string ⟨#[]⟩,.int .i64 0,.slice none 0 0,.string ⟨#[]⟩,.slice none 0 0,.int .i64 0,.int .i64 0,.slice none 0 0,.int .i64 0,.int .i64 0,.int .i64 0,.int .i64 0,.int .i64 0],.agg #[.string ⟨#[]⟩,.slice none 0 0,.slice none 0 0,.slice none 0 0],.agg #[.string ⟨#[]⟩,.slice none 0 0,.slice none 0 0,.slice none 0 0],.slice none 0 0,.int .i64 0] 8 rfl (World.shaped_of_RefB (by kernel_rfl) (by kernel_rfl)) (by kernel_rfl) (by kernel_rfl) (by kernel_rfl) (IU c _)) ?_
 intro W base args ds gs before E B _ _ hL _;have b: ∀(j:Nat) t v,Tryz.f3.params[j]?=some t->args[j]?=some v->Value.okWide Tryz.prog W .any base t v:=E;have D:=B;obtain⟨p,q,A,hV,rfl,aH,aI⟩:=B;have z:DataW.TrodAll enc Tryz.prog W 0 (λ_=>true) true Tryz.f3.params.toList args.toList ds p:=A;rw[Tryz.params3]at z b;obtain⟨J,aO,d0,aB,f,q0,aG,rfl,rfl,o,r0⟩:=trodAll_cons z;obtain⟨K,aP,d1,aC,g,F,rfl,rfl,rfl,r,r1⟩:=trodAll_cons r0;obtain⟨L,aQ,d2,aD,p2,G,rfl,rfl,rfl,s,r2⟩:=trodAll_cons r1;obtain⟨M,aR,d3,aE,p3,I,rfl,rfl,rfl,u,r3⟩:=trodAll_cons r2;obtain⟨N,aS,d4,aF,p4,l,rfl,rfl,rfl,y,r4⟩:=trodAll_cons r3;obtain⟨rfl,rfl,rfl⟩:=trodAll_nil r4;obtain rfl:args= #[J,K,L,M,N]:=by cases args;simp_all
 obtain⟨rfl,rfl⟩:=trodVars_none hV;obtain⟨aT,rfl,aJ⟩:=okWide_struct Tryz.underlying27 (b 0 27 J rfl rfl);obtain⟨aU,rfl,aK⟩:=okWide_struct Tryz.underlying32 (b 1 32 K rfl rfl);obtain⟨aV,rfl,aL⟩:=okWide_struct Tryz.underlying32 (b 2 32 L rfl rfl);obtain⟨A3,n3,c3,rfl⟩:=okWide_slice Tryz.underlying33 (b 3 33 M rfl rfl);obtain⟨m4,ak,_,_,O⟩:=open_int Tryz.underlying3 (b 4 3 N rfl rfl) y;subst ak;obtain⟨x0,P,n0,c0,Q,am,aa,R,an,ab,ag,au,av,aw,_⟩:=wW DD o;obtain rfl:=sN ag;obtain⟨m,S,n1,c1,T,ao,ac,U,ap,ad,ah,ax,aM,ay,_⟩:=wW tT r;obtain rfl:=sN ah;obtain⟨n,V,n2,c2,Y,aq,ae,Z,ar,af,ai,az,aN,aA,_⟩:=wW tT s;obtain rfl:=sN ai;obtain⟨x3,s3⟩:=GK (α:=Int) Ff u;have al:=Aw hL;have aj: ∀x∈f++(g++(p2++(p3++(p4++[])))),x.block<W.heap.size:=λx a=>D.lt x (by simpa using a);clear A E;refine(Dk W x0 P n0 c0 au Q am aa av R an ab aw al m.name S n1 c1 m.columns ax T ao ac U ap ad m.rows ay n.name V n2 c2 n.columns az Y aq ae Z ar af n.rows aA A3 n3 c3 x3 s3 m4 (by simp only[Lit.wf,Bool.and_eq_true,decide_eq_true_eq]at O;exact O)).mono λe W' ⟨he,hb⟩=>?_;subst he;have stay: ∀(sp:Nat->Bool) (t:TypeId) (v:Value) (k:DataW H) (i:List MemPlace),laidOutB Tryz.prog=true->Tryz.prog.readableRec t=true->t<Tryz.prog.types.size->(∀x∈i,x∈f++(g++(p2++(p3++(p4++[])))))->(∀x∈f++(g++(p2++(p3++(p4++[])))),sp x.block=true)->DataW.Trod enc Tryz.prog W 0 (λ_=>true) true t v k i->DataW.Trod enc Tryz.prog W' 0 sp true t v k i:=
  λsp t v k i F G I l q5 h=>WideElems.Trod_stays F G I h (λx a=>hb.same (aj x (l x a))) (λx a=>q5 x (l x a))
 exact⟨_,rfl,zZ (pa:=f++(g++(p2++(p3++(p4++[]))))) (pv:=[]) D (λ_ _ _=>trodAll_cons_mk (shut_bool Tryz.underlying4 _) trodAll_mk0)
  (λsp d=>(trodAll_cons_mk (stay sp _ _ _ _ uu (by kernel_rfl) (of_decide_eq_true (by kernel_rfl)) (λx a=>by simp[a]) (λx a=>d x (by simpa using a)) o) (trodAll_cons_mk (stay sp _ _ _ _ uu (by kernel_rfl) (of_decide_eq_true (by kernel_rfl)) (λx a=>by simp[a]) (λx a=>d x (by simpa using a)) r) (trodAll_cons_mk (stay sp _ _ _ _ uu (by kernel_rfl) (of_decide_eq_true (by kernel_rfl)) (λx a=>by simp[a]) (λx a=>d x (by simpa using a)) s) (trodAll_cons_mk (stay sp _ _ _ _ uu (by kernel_rfl) (of_decide_eq_true (by kernel_rfl)) (λx a=>by simp[a]) (λx a=>d x (by simpa using a)) u) (trodAll_cons_mk (stay sp _ _ _ _ uu (by kernel_rfl) (of_decide_eq_true (by kernel_rfl)) (λx a=>by simp[a]) (λx a=>d x (by simpa using a)) y) trodAll_mk0))))))
  (λ_ _=>rfl) II hb (ok_one (by kernel_rfl) rfl (okWide_bool_mk Tryz.underlying4 _))⟩
theorem Dp:joinedFacts Tryz.prog 3 Tryz.f3 Rows.inspectBuildSpec Rows.inspectBuildRow=true:=
 GQ _ _ _ _ _ Mq uu KU Mr Ms Mt Jb Mw I9 Ko Kq Kr Kt Ku Kv Kw Ky Kz KA KC KD KE KF KG I8 I7 KH KI IZ KL KM KP KQ
theorem G5:Tryz.f3.isWrapper Tryz.prog Rows.inspectBuildRow.wrapper Rows.inspectBuildRow.mainSum:=by
 unfold Func.isWrapper;first|(rw[if_pos (by decide+kernel)];kernel_rfl)|(rw[if_neg (by decide+kernel)];exact⟨rfl,rfl⟩)
theorem ET:Rows.inspectBuildRow.holds Tryz.pinned (OpenSpec.ofChange Rows.inspectBuildSpec):=
 OpenClaim.holds_of_wide 3 Tryz.f3 rfl rfl rfl rfl rfl rfl rfl ⟨rfl,rfl,rfl,rfl,rfl⟩ rfl rfl rfl rfl rfl AP Tryz.func3 Dp
  Gu G5
  (λa started H enc _=>Dq a started H enc)
theorem EW: ∀f a,Tryz.prog.funcNamed "warehouse/warehouselaw29.InspectBuild" =some f->Tryz.prog.funcs[f]?=some a->false=Tryz.prog.looks []/\ ∀(j:Nat) t,a.params[j]?=some t->Tryz.prog.wantsStandIn t=false:=by
 intro f a b c;obtain rfl:f=3:=Option.some.inj (AP.symm.trans b) |>.symm
 obtain rfl:a=Tryz.f3:=(Option.some.inj (Tryz.func3.symm.trans c)).symm;refine⟨Ja,λj t d=>?_⟩;simpa using List.all_eq_true.1 EI t (Array.mem_toList_iff.2 (Array.mem_of_getElem? d))
theorem inspectBuildProved:Rows.InspectBuildCardSaid:=
 Claim7.holds_tied_plain_at .later [] [.widerDeep] true Rows.inspectBuildCard.stood.harness false
  ET (λ_ h=>by cases h) I4 (λ_ h=>by cases h) inspectBuild_row_tie rfl ⟨rfl,rfl⟩ Gv rfl
  EW Gt
#print axioms inspectBuildProved
end Go.Proofs.YthnelebakkggjaaGreatDoor
