/-
  For every input the law InspectMaintains returns true, and its arguments read as they did; the listed variable (the reserved words) is tied to the program's text.
-/
import Derived.Test.YtggejcekmehocaaGreatDoorCards
import Derived.Test.YtggejcekmehocaaGreatDoorGaf
import Derived.Test.YtggejcekmehocaaGreatDoorGap
import Derived.Test.YtggejcekmehocaaGreatDoorGab
import Derived.Test.YtggejcekmehocaaGreatDoorFcP
import Derived.Test.YtggejcekmehocaaGreatDoorLwMt
namespace Go.Proofs.YtggejcekmehocaaGreatDoor
set_option maxRecDepth 100000
open Go.ChangeShapes Go.WideShapes Go.ChangeAt Go.RowKit Go.WideElems
set_option linter.unusedVariables false
set_option linter.unusedSimpArgs false
theorem E5 (os:Os)(started:os.Started)(H:Type)(enc:TypeId×Value->H):
  ReturnsInHanded {} Tryz.checked os 5 .any (λw args=>(Rows.inspectMaintainsSpec.pre enc Tryz.prog Tryz.f5 [] false w args/\laidMetH Tryz.prog ER w)/\sizedMet enc Tryz.prog Tryz.f5 (OpenSpec.ofChange Rows.inspectMaintainsSpec) false w args)
   (Rows.inspectMaintainsSpec.post enc Tryz.prog Tryz.f5 false true false false):=by
 refine returnsInHanded_of_change_and (C:=Tryz.checked) (X:=λw _=>laidMetH Tryz.prog ER w) (λ_ _ _ hh h=>h.of_heap hh) own started (by kernel_rfl) Tryz.func5
  (ChangeSpec.witness_shaped (enc:=enc) (C:=Tryz.checked) (os:=os) (X:=λw _=>laidMetH Tryz.prog ER w) false (World.doorLaid Tryz.prog 14 os) #[.slice none 0 0,.int .i64 0,.slice none 0 0] 8 rfl (World.shaped_of_RefB (by kernel_rfl) (by kernel_rfl)) (by kernel_rfl) (by kernel_rfl) (by kernel_rfl) (Li os _)) ?_
 intro W base args ds gs before hval0 hW _ _ hL _;have hval: ∀(j:Nat) t v,Tryz.f5.params[j]?=some t->args[j]?=some v->Value.okWide Tryz.prog W .any base t v:=hval0;have hW':=hW;obtain ⟨p,q,Vx,hV,rfl,hfz,hnd⟩:=hW;have hA:DataW.TrodAll enc Tryz.prog W 0 (λ_=>true) true Tryz.f5.params.toList args.toList ds p:=Vx;rw[Tryz.params5]at hA hval;obtain ⟨v0,vs0,d0,ds0,p0,q0,hargs,rfl,rfl,h0,r0⟩:=trodAll_cons hA;obtain ⟨v1,vs1,d1,ds1,p1,q1,rfl,rfl,rfl,h1,r1⟩:=trodAll_cons r0;obtain ⟨v2,vs2,d2,ds2,p2,q2,rfl,rfl,rfl,h2,r2⟩:=trodAll_cons r1;obtain ⟨rfl,rfl,rfl⟩:=trodAll_nil r2;obtain rfl:args= #[v0,v1,v2]:=by cases args;simp_all
 obtain ⟨rfl,rfl⟩:=trodVars_none hV;obtain ⟨A0,n0,c0,rfl⟩:=okWide_slice Tryz.underlying33 (hval 0 33 v0 rfl rfl);obtain ⟨m1,hm1,_,_,Y7⟩:=open_int Tryz.underlying3 (hval 1 3 v1 rfl rfl) h1;subst hm1;obtain ⟨A2,n2,c2,rfl⟩:=okWide_slice Tryz.underlying33 (hval 2 33 v2 rfl rfl);obtain ⟨x0,s0⟩:=BF (α:=Int) zL h0;obtain ⟨x2,s2⟩:=BF (α:=Int) zL h2;have hwd:=Bl hL;have hlt: ∀x∈p0++(p1++(p2++[])),x.block<W.heap.size:=λx hx=>hW'.lt x (by simpa using hx);clear Vx hval0;refine (ET W A0 n0 c0 x0 s0 m1 (by simp only[Lit.wf,Bool.and_eq_true,decide_eq_true_eq]at Y7;exact Y7) A2 n2 c2 x2 s2 hwd).mono λe W' ⟨he,hb⟩=>?_;subst he;have stay: ∀(sp:Nat->Bool) (t:TypeId) (v:Value) (dd:DataW H) (ps:List MemPlace),laidOutB Tryz.prog=true->Tryz.prog.readableRec t=true->t<Tryz.prog.types.size->(∀x∈ps,x∈p0++(p1++(p2++[])))->(∀x∈p0++(p1++(p2++[])),sp x.block=true)->DataW.Trod enc Tryz.prog W 0 (λ_=>true) true t v dd ps->DataW.Trod enc Tryz.prog W' 0 sp true t v dd ps:=
  λsp t v dd ps q1 q2 q3 q4 q5 h=>WideElems.Trod_stays q1 q2 q3 h (λx hx=>hb.same (hlt x (q4 x hx))) (λx hx=>q5 x (q4 x hx))
 exact ⟨_,rfl,AV (pa:=p0++(p1++(p2++[]))) (pv:=[]) hW' (λ_ _ _=>trodAll_cons_mk (shut_bool Tryz.underlying4 _) trodAll_mk0)
  (λsp hsp=>(trodAll_cons_mk (stay sp _ _ _ _ yw (by kernel_rfl) (of_decide_eq_true (by kernel_rfl)) (λx hx=>by simp[hx]) (λx hx=>hsp x (by simpa using hx)) h0) (trodAll_cons_mk (stay sp _ _ _ _ yw (by kernel_rfl) (of_decide_eq_true (by kernel_rfl)) (λx hx=>by simp[hx]) (λx hx=>hsp x (by simpa using hx)) h1) (trodAll_cons_mk (stay sp _ _ _ _ yw (by kernel_rfl) (of_decide_eq_true (by kernel_rfl)) (λx hx=>by simp[hx]) (λx hx=>hsp x (by simpa using hx)) h2) trodAll_mk0))))
  (λ_ _=>rfl) (by simp) hb (ok_one (by kernel_rfl) rfl (okWide_bool_mk Tryz.underlying4 _))⟩
theorem EZ:joinedFacts Tryz.prog 5 Tryz.f5 Rows.inspectMaintainsSpec Rows.inspectMaintainsRow=true:=
 JB _ _ _ _ _ Rp yw O6 Rq Rs Rt LQ Ru LJ OA OC OD OG OH OI OJ OM OO OP OQ OT OU OV OW LH LG OX OY Lr OZ O0 O1 O3
theorem JF:Tryz.f5.isWrapper Tryz.prog Rows.inspectMaintainsRow.wrapper Rows.inspectMaintainsRow.mainSum:=by
 unfold Func.isWrapper;first|(rw[if_pos (by decide+kernel)];kernel_rfl)|(rw[if_neg (by decide+kernel)];exact ⟨rfl,rfl⟩)
theorem GJ:Rows.inspectMaintainsRow.holds Tryz.pinned (OpenSpec.ofChange Rows.inspectMaintainsSpec):=
 OpenClaim.holds_of_wide 5 Tryz.f5 rfl rfl rfl rfl rfl rfl rfl ⟨rfl,rfl,rfl,rfl,rfl⟩ rfl rfl rfl rfl rfl BA Tryz.func5 EZ
  Jg JF
  (λos started H enc _=>E5 os started H enc)
theorem GK: ∀f fn,Tryz.prog.funcNamed "warehouse/warehouselaw29.InspectMaintains" =some f->Tryz.prog.funcs[f]?=some fn->false=Tryz.prog.looks []/\ ∀(j:Nat) t,fn.params[j]?=some t->Tryz.prog.wantsStandIn t=false:=by
 intro f fn hf hfn;obtain rfl:f=5:=Option.some.inj (BA.symm.trans hf) |>.symm
 obtain rfl:fn=Tryz.f5:=(Option.some.inj (Tryz.func5.symm.trans hfn)).symm;refine ⟨LP,λj t ht=>?_⟩;simpa using List.all_eq_true.1 Gu t (Array.mem_toList_iff.2 (Array.mem_of_getElem? ht))
theorem inspectMaintainsProved:Rows.InspectMaintainsCardSaid:=
 Claim7.holds_tied_plain_at .later [] [.widerDeep] true Rows.inspectMaintainsCard.stood.harness false
  GJ (λ_ h=>by cases h) Ls (λ_ h=>by cases h) inspectMaintains_row_tie rfl ⟨rfl,rfl⟩ Jh rfl
  GK Jf
#print axioms inspectMaintainsProved
end Go.Proofs.YtggejcekmehocaaGreatDoor
