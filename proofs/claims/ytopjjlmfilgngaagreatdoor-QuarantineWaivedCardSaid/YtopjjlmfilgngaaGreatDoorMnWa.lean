/-
  For every input the law QuarantineWaived returns true, and its arguments read as they did; the listed variable (the reserved words) is tied to the program's text.
-/
import Derived.Test.YtopjjlmfilgngaaGreatDoorCards
import Derived.Test.YtopjjlmfilgngaaGreatDoorTop
import Derived.Test.YtopjjlmfilgngaaGreatDoorOpQ
import Derived.Test.YtopjjlmfilgngaaGreatDoorGab
import Derived.Test.YtopjjlmfilgngaaGreatDoorFcP
import Derived.Test.YtopjjlmfilgngaaGreatDoorGax
namespace Go.Proofs.YtopjjlmfilgngaaGreatDoor
set_option maxRecDepth 100000
open Go.ChangeShapes Go.WideShapes Go.ChangeAt Go.RowKit Go.WideElems
set_option linter.unusedVariables false
set_option linter.unusedSimpArgs false
theorem vY (os:Os)(started:os.Started)(H:Type)(enc:TypeId×Value->H):
  ReturnsInHanded {} Tryz.checked os 3 .any (λw args=>(Rows.quarantineWaivedSpec.pre enc Tryz.prog Tryz.f3 [] false w args/\laidMetH Tryz.prog vT w)/\sizedMet enc Tryz.prog Tryz.f3 (OpenSpec.ofChange Rows.quarantineWaivedSpec) false w args)
   (Rows.quarantineWaivedSpec.post enc Tryz.prog Tryz.f3 false true false false):=by
 refine returnsInHanded_of_change_and (C:=Tryz.checked) (X:=λw _=>laidMetH Tryz.prog vT w) (λ_ _ _ hh h=>h.of_heap hh) own started (by kernel_rfl) Tryz.func3
  (ChangeSpec.witness_shaped (enc:=enc) (C:=Tryz.checked) (os:=os) (X:=λw _=>laidMetH Tryz.prog vT w) false (World.doorLaid Tryz.prog 14 os) #[.slice none 0 0,.string ⟨#[]⟩,.slice none 0 0,.int .i64 0] 8 rfl (World.shaped_of_RefB (by kernel_rfl) (by kernel_rfl)) (by kernel_rfl) (by kernel_rfl) (by kernel_rfl) (Bt os _)) ?_
 intro W base args ds gs before hval0 hW _ _ hL _;have hval: ∀(j:Nat) t v,Tryz.f3.params[j]?=some t->args[j]?=some v->Value.okWide Tryz.prog W .any base t v:=hval0;have hW':=hW;obtain ⟨p,q,MV,hV,rfl,hfz,hnd⟩:=hW;have hA:DataW.TrodAll enc Tryz.prog W 0 (λ_=>true) true Tryz.f3.params.toList args.toList ds p:=MV;rw[Tryz.params3]at hA hval;obtain ⟨v0,PX,d0,ds0,p0,q0,hargs,rfl,rfl,h0,r0⟩:=trodAll_cons hA;obtain ⟨v1,vs1,d1,ds1,p1,q1,rfl,rfl,rfl,h1,r1⟩:=trodAll_cons r0;obtain ⟨v2,vs2,d2,PN,p2,q2,rfl,rfl,rfl,h2,r2⟩:=trodAll_cons r1;obtain ⟨v3,vs3,d3,ds3,p3,q3,rfl,rfl,rfl,h3,r3⟩:=trodAll_cons r2;obtain ⟨rfl,rfl,rfl⟩:=trodAll_nil r3;obtain rfl:args= #[v0,v1,v2,v3]:=by cases args;simp_all
 obtain ⟨rfl,rfl⟩:=trodVars_none hV;obtain ⟨A0,n0,c0,rfl⟩:=okWide_slice Tryz.underlying22 (hval 0 22 v0 rfl rfl);obtain ⟨m1,hm1,_,_,Qf⟩:=Go.ChangeMaps.open_string Tryz.underlying9 (hval 1 9 v1 rfl rfl) h1;subst hm1;obtain ⟨A2,n2,c2,rfl⟩:=okWide_slice Tryz.underlying23 (hval 2 23 v2 rfl rfl);obtain ⟨m3,O6,_,_,Qg⟩:=open_int Tryz.underlying3 (hval 3 3 v3 rfl rfl) h3;subst O6;obtain ⟨x0,s0⟩:=sW (α:=Wvr) rX h0;obtain ⟨x2,s2⟩:=sW (α:=Val) qM h2;have hwd:=su hL;have hlt: ∀x∈p0++(p1++(p2++(p3++[]))),x.block<W.heap.size:=λx hx=>hW'.lt x (by simpa using hx);clear MV hval0;refine (vU W A0 n0 c0 x0 s0 m1 A2 n2 c2 x2 s2 m3 hwd).mono λe W' ⟨he,hb⟩=>?_;subst he;have stay: ∀(sp:Nat->Bool) (t:TypeId) (v:Value) (dd:DataW H) (ps:List MemPlace),laidOutB Tryz.prog=true->Tryz.prog.readableRec t=true->t<Tryz.prog.types.size->(∀x∈ps,x∈p0++(p1++(p2++(p3++[]))))->(∀x∈p0++(p1++(p2++(p3++[]))),sp x.block=true)->DataW.Trod enc Tryz.prog W 0 (λ_=>true) true t v dd ps->DataW.Trod enc Tryz.prog W' 0 sp true t v dd ps:=
  λsp t v dd ps q1 q2 q3 q4 q5 h=>WideElems.Trod_stays q1 q2 q3 h (λx hx=>hb.same (hlt x (q4 x hx))) (λx hx=>q5 x (q4 x hx))
 exact ⟨_,rfl,rY (pa:=p0++(p1++(p2++(p3++[])))) (pv:=[]) hW' (λ_ _ _=>trodAll_cons_mk (shut_bool Tryz.underlying4 _) trodAll_mk0)
  (λsp hsp=>(trodAll_cons_mk (stay sp _ _ _ _ mW (by kernel_rfl) (of_decide_eq_true (by kernel_rfl)) (λx hx=>by simp[hx]) (λx hx=>hsp x (by simpa using hx)) h0) (trodAll_cons_mk (stay sp _ _ _ _ mW (by kernel_rfl) (of_decide_eq_true (by kernel_rfl)) (λx hx=>by simp[hx]) (λx hx=>hsp x (by simpa using hx)) h1) (trodAll_cons_mk (stay sp _ _ _ _ mW (by kernel_rfl) (of_decide_eq_true (by kernel_rfl)) (λx hx=>by simp[hx]) (λx hx=>hsp x (by simpa using hx)) h2) (trodAll_cons_mk (stay sp _ _ _ _ mW (by kernel_rfl) (of_decide_eq_true (by kernel_rfl)) (λx hx=>by simp[hx]) (λx hx=>hsp x (by simpa using hx)) h3) trodAll_mk0)))))
  (λ_ _=>rfl) (by simp) hb (ok_one (by kernel_rfl) rfl (okWide_bool_mk Tryz.underlying4 _))⟩
theorem vX:joinedFacts Tryz.prog 3 Tryz.f3 Rows.quarantineWaivedSpec Rows.quarantineWaivedRow=true:=
 zB _ _ _ _ _ FY mW EB FZ F3 F4 BL F5 BJ Ec Ed Ee Ef Eg Eh Ei Ej El Em En Eo Ep Er Es BI BH Et Eu BB Ev Ew Ex Ey
theorem zG:Tryz.f3.isWrapper Tryz.prog Rows.quarantineWaivedRow.wrapper Rows.quarantineWaivedRow.mainSum:=by
 unfold Func.isWrapper;first|(rw[if_pos (by decide+kernel)];kernel_rfl)|(rw[if_neg (by decide+kernel)];exact ⟨rfl,rfl⟩)
theorem xN:Rows.quarantineWaivedRow.holds Tryz.pinned (OpenSpec.ofChange Rows.quarantineWaivedSpec):=
 OpenClaim.holds_of_wide 3 Tryz.f3 rfl rfl rfl rfl rfl rfl rfl ⟨rfl,rfl,rfl,rfl,rfl⟩ rfl rfl rfl rfl rfl sP Tryz.func3 vX
  zl zG
  (λos started H enc _=>vY os started H enc)
theorem xO: ∀f fn,Tryz.prog.funcNamed "warehouse/warehouselaw30.QuarantineWaived" =some f->Tryz.prog.funcs[f]?=some fn->false=Tryz.prog.looks []/\ ∀(j:Nat) t,fn.params[j]?=some t->Tryz.prog.wantsStandIn t=false:=by
 intro f fn hf hfn;obtain rfl:f=3:=Option.some.inj (sP.symm.trans hf) |>.symm
 obtain rfl:fn=Tryz.f3:=(Option.some.inj (Tryz.func3.symm.trans hfn)).symm;refine ⟨BK,λj t ht=>?_⟩;simpa using List.all_eq_true.1 xD t (Array.mem_toList_iff.2 (Array.mem_of_getElem? ht))
theorem quarantineWaivedProved:Rows.QuarantineWaivedCardSaid:=
 Claim7.holds_tied_plain_at .later [] [.widerDeep] true Rows.quarantineWaivedCard.stood.harness false
  xN (λ_ h=>by cases h) BC (λ_ h=>by cases h) quarantineWaived_row_tie rfl ⟨rfl,rfl⟩ zm rfl
  xO zk
#print axioms quarantineWaivedProved
end Go.Proofs.YtopjjlmfilgngaaGreatDoor
