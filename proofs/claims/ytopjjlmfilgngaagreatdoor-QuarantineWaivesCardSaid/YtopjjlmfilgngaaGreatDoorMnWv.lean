/-
  For every input the law QuarantineWaives returns true, and its arguments read as they did; the listed variable (the reserved words) is tied to the program's text.
-/
import Derived.Test.YtopjjlmfilgngaaGreatDoorCards
import Derived.Test.YtopjjlmfilgngaaGreatDoorTop
import Derived.Test.YtopjjlmfilgngaaGreatDoorGai
import Derived.Test.YtopjjlmfilgngaaGreatDoorGab
import Derived.Test.YtopjjlmfilgngaaGreatDoorFcP
import Derived.Test.YtopjjlmfilgngaaGreatDoorLwWv
namespace Go.Proofs.YtopjjlmfilgngaaGreatDoor
set_option maxRecDepth 100000
open Go.ChangeShapes Go.WideShapes Go.ChangeAt Go.RowKit Go.WideElems
set_option linter.unusedVariables false
set_option linter.unusedSimpArgs false
theorem FR (os:Os)(started:os.Started)(H:Type)(enc:TypeId×Value->H):
  ReturnsInHanded {} Tryz.checked os 4 .any (λw args=>(Rows.quarantineWaivesSpec.pre enc Tryz.prog Tryz.f4 [] false w args/\laidMetH Tryz.prog FK w)/\sizedMet enc Tryz.prog Tryz.f4 (OpenSpec.ofChange Rows.quarantineWaivesSpec) false w args)
   (Rows.quarantineWaivesSpec.post enc Tryz.prog Tryz.f4 false true false false):=by
 refine returnsInHanded_of_change_and (C:=Tryz.checked) (X:=λw _=>laidMetH Tryz.prog FK w) (λ_ _ _ hh h=>h.of_heap hh) own started (by kernel_rfl) Tryz.func4
  (ChangeSpec.witness_shaped (enc:=enc) (C:=Tryz.checked) (os:=os) (X:=λw _=>laidMetH Tryz.prog FK w) false (World.doorLaid Tryz.prog 14 os) #[.slice none 0 0,.slice none 0 0,.int .i64 0,.int .i64 0] 8 rfl (World.shaped_of_RefB (by kernel_rfl) (by kernel_rfl)) (by kernel_rfl) (by kernel_rfl) (by kernel_rfl) (M0 os _)) ?_
 intro W base args ds gs before hval0 hW _ _ hL _;have hval: ∀(j:Nat) t v,Tryz.f4.params[j]?=some t->args[j]?=some v->Value.okWide Tryz.prog W .any base t v:=hval0;have hW':=hW;obtain ⟨p,q,XQ,hV,rfl,hfz,hnd⟩:=hW;have hA:DataW.TrodAll enc Tryz.prog W 0 (λ_=>true) true Tryz.f4.params.toList args.toList ds p:=XQ;rw[Tryz.params4]at hA hval;obtain ⟨v0,vJ,d0,ds0,p0,q0,hargs,rfl,rfl,h0,r0⟩:=trodAll_cons hA;obtain ⟨v1,vs1,d1,ds1,p1,q1,rfl,rfl,rfl,h1,r1⟩:=trodAll_cons r0;obtain ⟨v2,vs2,d2,ds2,p2,q2,rfl,rfl,rfl,h2,r2⟩:=trodAll_cons r1;obtain ⟨v3,vs3,d3,ds3,p3,q3,rfl,rfl,rfl,h3,r3⟩:=trodAll_cons r2;obtain ⟨rfl,rfl,rfl⟩:=trodAll_nil r3;obtain rfl:args= #[v0,v1,v2,v3]:=by cases args;simp_all
 obtain ⟨rfl,rfl⟩:=trodVars_none hV;obtain ⟨A0,n0,c0,rfl⟩:=okWide_slice Tryz.underlying38 (hval 0 38 v0 rfl rfl);obtain ⟨A1,n1,c1,rfl⟩:=okWide_slice Tryz.underlying38 (hval 1 38 v1 rfl rfl);obtain ⟨m2,hm2,_,_,wm2⟩:=open_int Tryz.underlying3 (hval 2 3 v2 rfl rfl) h2;subst hm2;obtain ⟨m3,hm3,_,_,wm3⟩:=open_int Tryz.underlying3 (hval 3 3 v3 rfl rfl) h3;subst hm3;obtain ⟨x0,s0⟩:=Cr (α:=Int) zO h0;obtain ⟨x1,s1⟩:=Cr (α:=Int) zO h1;have hwd:=BO hL;have hlt: ∀x∈p0++(p1++(p2++(p3++[]))),x.block<W.heap.size:=λx hx=>hW'.lt x (by simpa using hx);clear XQ hval0;refine (FL W A0 n0 c0 x0 s0 A1 n1 c1 x1 s1 m2 m3 hwd).mono λe W' ⟨he,hb⟩=>?_;subst he;have stay: ∀(sp:Nat->Bool) (t:TypeId) (v:Value) (dd:DataW H) (ps:List MemPlace),laidOutB Tryz.prog=true->Tryz.prog.readableRec t=true->t<Tryz.prog.types.size->(∀x∈ps,x∈p0++(p1++(p2++(p3++[]))))->(∀x∈p0++(p1++(p2++(p3++[]))),sp x.block=true)->DataW.Trod enc Tryz.prog W 0 (λ_=>true) true t v dd ps->DataW.Trod enc Tryz.prog W' 0 sp true t v dd ps:=
  λsp t v dd ps q1 q2 q3 q4 q5 h=>WideElems.Trod_stays q1 q2 q3 h (λx hx=>hb.same (hlt x (q4 x hx))) (λx hx=>q5 x (q4 x hx))
 exact ⟨_,rfl,Bz (pa:=p0++(p1++(p2++(p3++[])))) (pv:=[]) hW' (λ_ _ _=>trodAll_cons_mk (shut_bool Tryz.underlying4 _) trodAll_mk0)
  (λsp hsp=>(trodAll_cons_mk (stay sp _ _ _ _ uS (by kernel_rfl) (of_decide_eq_true (by kernel_rfl)) (λx hx=>by simp[hx]) (λx hx=>hsp x (by simpa using hx)) h0) (trodAll_cons_mk (stay sp _ _ _ _ uS (by kernel_rfl) (of_decide_eq_true (by kernel_rfl)) (λx hx=>by simp[hx]) (λx hx=>hsp x (by simpa using hx)) h1) (trodAll_cons_mk (stay sp _ _ _ _ uS (by kernel_rfl) (of_decide_eq_true (by kernel_rfl)) (λx hx=>by simp[hx]) (λx hx=>hsp x (by simpa using hx)) h2) (trodAll_cons_mk (stay sp _ _ _ _ uS (by kernel_rfl) (of_decide_eq_true (by kernel_rfl)) (λx hx=>by simp[hx]) (λx hx=>hsp x (by simpa using hx)) h3) trodAll_mk0)))))
  (λ_ _=>rfl) (by simp) hb (ok_one (by kernel_rfl) rfl (okWide_bool_mk Tryz.underlying4 _))⟩
theorem FQ:joinedFacts Tryz.prog 4 Tryz.f4 Rows.quarantineWaivesSpec Rows.quarantineWaivesRow=true:=
 Ku _ _ _ _ _ Tu uS QM Tv Tw Tx Nn Ty Nk Qo Qp Qq Qr Qs Qt Qu Qv Qw Qx Qy Qz QA QB QC Nj Ni QD QE M9 QF QG QH QI
theorem KH:Tryz.f4.isWrapper Tryz.prog Rows.quarantineWaivesRow.wrapper Rows.quarantineWaivesRow.mainSum:=by
 unfold Func.isWrapper;first|(rw[if_pos (by decide+kernel)];kernel_rfl)|(rw[if_neg (by decide+kernel)];exact ⟨rfl,rfl⟩)
theorem Ie:Rows.quarantineWaivesRow.holds Tryz.pinned (OpenSpec.ofChange Rows.quarantineWaivesSpec):=
 OpenClaim.holds_of_wide 4 Tryz.f4 rfl rfl rfl rfl rfl rfl rfl ⟨rfl,rfl,rfl,rfl,rfl⟩ rfl rfl rfl rfl rfl Cg Tryz.func4 FQ
  Kb KH
  (λos started H enc _=>FR os started H enc)
theorem Ig: ∀f fn,Tryz.prog.funcNamed "warehouse/warehouselaw30.QuarantineWaives" =some f->Tryz.prog.funcs[f]?=some fn->false=Tryz.prog.looks []/\ ∀(j:Nat) t,fn.params[j]?=some t->Tryz.prog.wantsStandIn t=false:=by
 intro f fn hf hfn;obtain rfl:f=4:=Option.some.inj (Cg.symm.trans hf) |>.symm
 obtain rfl:fn=Tryz.f4:=(Option.some.inj (Tryz.func4.symm.trans hfn)).symm;refine ⟨Nl,λj t ht=>?_⟩;simpa using List.all_eq_true.1 G9 t (Array.mem_toList_iff.2 (Array.mem_of_getElem? ht))
theorem quarantineWaivesProved:Rows.QuarantineWaivesCardSaid:=
 Claim7.holds_tied_plain_at .later [] [.widerDeep] true Rows.quarantineWaivesCard.stood.harness false
  Ie (λ_ h=>by cases h) Na (λ_ h=>by cases h) quarantineWaives_row_tie rfl ⟨rfl,rfl⟩ Kc rfl
  Ig Ka
#print axioms quarantineWaivesProved
end Go.Proofs.YtopjjlmfilgngaaGreatDoor
