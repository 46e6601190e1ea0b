/-
  For every input the law QuarantineFlows returns true, and its arguments read as they did; the listed variable (the reserved words) is tied to the program's text.
-/
import Derived.Test.YtopjjlmfilgngaaGreatDoorCards
import Derived.Test.YtopjjlmfilgngaaGreatDoorTop
import Derived.Test.YtopjjlmfilgngaaGreatDoorGah
import Derived.Test.YtopjjlmfilgngaaGreatDoorGab
import Derived.Test.YtopjjlmfilgngaaGreatDoorFcP
import Derived.Test.YtopjjlmfilgngaaGreatDoorGba
namespace Go.Proofs.YtopjjlmfilgngaaGreatDoor
set_option maxRecDepth 100000
open Go.ChangeShapes Go.WideShapes Go.ChangeAt Go.RowKit Go.WideElems
set_option linter.unusedVariables false
set_option linter.unusedSimpArgs false
theorem zw (os:Os)(started:os.Started)(H:Type)(enc:TypeId×Value->H):
  ReturnsInHanded {} Tryz.checked os 5 .any (λw args=>(Rows.quarantineFlowsSpec.pre enc Tryz.prog Tryz.f5 [] false w args/\laidMetH Tryz.prog zl w)/\sizedMet enc Tryz.prog Tryz.f5 (OpenSpec.ofChange Rows.quarantineFlowsSpec) false w args)
   (Rows.quarantineFlowsSpec.post enc Tryz.prog Tryz.f5 false true false false):=by
 refine returnsInHanded_of_change_and (C:=Tryz.checked) (X:=λw _=>laidMetH Tryz.prog zl w) (λ_ _ _ hh h=>h.of_heap hh) own started (by kernel_rfl) Tryz.func5
  (ChangeSpec.witness_shaped (enc:=enc) (C:=Tryz.checked) (os:=os) (X:=λw _=>laidMetH Tryz.prog zl w) false (World.doorLaid Tryz.prog 14 os) #[.slice none 0 0,.slice none 0 0] 8 rfl (World.shaped_of_RefB (by kernel_rfl) (by kernel_rfl)) (by kernel_rfl) (by kernel_rfl) (by kernel_rfl) (EX os _)) ?_
 intro W base args ds gs before hval0 hW _ _ hL _;have hval: ∀(j:Nat) t v,Tryz.f5.params[j]?=some t->args[j]?=some v->Value.okWide Tryz.prog W .any base t v:=hval0;have hW':=hW;obtain ⟨p,q,Tf,hV,rfl,hfz,hnd⟩:=hW;have hA:DataW.TrodAll enc Tryz.prog W 0 (λ_=>true) true Tryz.f5.params.toList args.toList ds p:=Tf;rw[Tryz.params5]at hA hval;obtain ⟨v0,WP,d0,ds0,p0,q0,hargs,rfl,rfl,h0,r0⟩:=trodAll_cons hA;obtain ⟨v1,vs1,d1,ds1,p1,q1,rfl,rfl,rfl,h1,r1⟩:=trodAll_cons r0;obtain ⟨rfl,rfl,rfl⟩:=trodAll_nil r1;obtain rfl:args= #[v0,v1]:=by cases args;simp_all
 obtain ⟨rfl,rfl⟩:=trodVars_none hV;obtain ⟨A0,n0,c0,rfl⟩:=okWide_slice Tryz.underlying38 (hval 0 38 v0 rfl rfl);obtain ⟨A1,n1,c1,rfl⟩:=okWide_slice Tryz.underlying38 (hval 1 38 v1 rfl rfl);obtain ⟨x0,s0⟩:=vX (α:=Int) ul h0;obtain ⟨x1,s1⟩:=vX (α:=Int) ul h1;have hwd:=vB hL;have hlt: ∀x∈p0++(p1++[]),x.block<W.heap.size:=λx hx=>hW'.lt x (by simpa using hx);clear Tf hval0;refine (zm W A0 n0 c0 x0 s0 A1 n1 c1 x1 s1 hwd).mono λe W' ⟨he,hb⟩=>?_;subst he;have stay: ∀(sp:Nat->Bool) (t:TypeId) (v:Value) (dd:DataW H) (ps:List MemPlace),laidOutB Tryz.prog=true->Tryz.prog.readableRec t=true->t<Tryz.prog.types.size->(∀x∈ps,x∈p0++(p1++[]))->(∀x∈p0++(p1++[]),sp x.block=true)->DataW.Trod enc Tryz.prog W 0 (λ_=>true) true t v dd ps->DataW.Trod enc Tryz.prog W' 0 sp true t v dd ps:=
  λsp t v dd ps q1 q2 q3 q4 q5 h=>WideElems.Trod_stays q1 q2 q3 h (λx hx=>hb.same (hlt x (q4 x hx))) (λx hx=>q5 x (q4 x hx))
 exact ⟨_,rfl,vg (pa:=p0++(p1++[])) (pv:=[]) hW' (λ_ _ _=>trodAll_cons_mk (shut_bool Tryz.underlying4 _) trodAll_mk0)
  (λsp hsp=>(trodAll_cons_mk (stay sp _ _ _ _ wY (by kernel_rfl) (of_decide_eq_true (by kernel_rfl)) (λx hx=>by simp[hx]) (λx hx=>hsp x (by simpa using hx)) h0) (trodAll_cons_mk (stay sp _ _ _ _ wY (by kernel_rfl) (of_decide_eq_true (by kernel_rfl)) (λx hx=>by simp[hx]) (λx hx=>hsp x (by simpa using hx)) h1) trodAll_mk0)))
  (λ_ _=>rfl) (by simp) hb (ok_one (by kernel_rfl) rfl (okWide_bool_mk Tryz.underlying4 _))⟩
theorem zu:joinedFacts Tryz.prog 5 Tryz.f5 Rows.quarantineFlowsSpec Rows.quarantineFlowsRow=true:=
 Dm _ _ _ _ _ Ll wY Jq Lm Lp Lr Fx Ls Fv IV IW IX IY IZ I4 I5 I6 I7 I8 I9 Ja Jb Jc Jd Fu Fs Je Jf Fa Jg Jh Ji Jj
theorem Du:Tryz.f5.isWrapper Tryz.prog Rows.quarantineFlowsRow.wrapper Rows.quarantineFlowsRow.mainSum:=by
 unfold Func.isWrapper;first|(rw[if_pos (by decide+kernel)];kernel_rfl)|(rw[if_neg (by decide+kernel)];exact ⟨rfl,rfl⟩)
theorem Bj:Rows.quarantineFlowsRow.holds Tryz.pinned (OpenSpec.ofChange Rows.quarantineFlowsSpec):=
 OpenClaim.holds_of_wide 5 Tryz.f5 rfl rfl rfl rfl rfl rfl rfl ⟨rfl,rfl,rfl,rfl,rfl⟩ rfl rfl rfl rfl rfl vN Tryz.func5 zu
  C9 Du
  (λos started H enc _=>zw os started H enc)
theorem Bl: ∀f fn,Tryz.prog.funcNamed "warehouse/warehouselaw30.QuarantineFlows" =some f->Tryz.prog.funcs[f]?=some fn->false=Tryz.prog.looks []/\ ∀(j:Nat) t,fn.params[j]?=some t->Tryz.prog.wantsStandIn t=false:=by
 intro f fn hf hfn;obtain rfl:f=5:=Option.some.inj (vN.symm.trans hf) |>.symm
 obtain rfl:fn=Tryz.f5:=(Option.some.inj (Tryz.func5.symm.trans hfn)).symm;refine ⟨Fw,λj t ht=>?_⟩;simpa using List.all_eq_true.1 AR t (Array.mem_toList_iff.2 (Array.mem_of_getElem? ht))
theorem quarantineFlowsProved:Rows.QuarantineFlowsCardSaid:=
 Claim7.holds_tied_plain_at .later [] [.widerDeep] true Rows.quarantineFlowsCard.stood.harness false
  Bj (λ_ h=>by cases h) Fb (λ_ h=>by cases h) quarantineFlows_row_tie rfl ⟨rfl,rfl⟩ Da rfl
  Bl C8
#print axioms quarantineFlowsProved
end Go.Proofs.YtopjjlmfilgngaaGreatDoor
