/-
  For every input the law QuarantineRejoins returns true, and its arguments read as they did; the listed variable (the reserved words) is tied to the program's text.
-/
import Derived.Test.YtopjjlmfilgngaaGreatDoorCards
import Derived.Test.YtopjjlmfilgngaaGreatDoorTop
import Derived.Test.YtopjjlmfilgngaaGreatDoorOpQ
import Derived.Test.YtopjjlmfilgngaaGreatDoorGab
import Derived.Test.YtopjjlmfilgngaaGreatDoorFcP
import Derived.Test.YtopjjlmfilgngaaGreatDoorLwRj
namespace Go.Proofs.YtopjjlmfilgngaaGreatDoor
set_option maxRecDepth 100000
open Go.ChangeShapes Go.WideShapes Go.ChangeAt Go.RowKit Go.WideElems
set_option linter.unusedVariables false
set_option linter.unusedSimpArgs false
theorem mnrj_lifted (os:Os)(started:os.Started)(H:Type)(enc:TypeId×Value->H):
  ReturnsInHanded {} Tryz.checked os 6 .any (λw args=>(Rows.quarantineRejoinsSpec.pre enc Tryz.prog Tryz.f6 [] false w args/\laidMetH Tryz.prog zl w)/\sizedMet enc Tryz.prog Tryz.f6 (OpenSpec.ofChange Rows.quarantineRejoinsSpec) false w args)
   (Rows.quarantineRejoinsSpec.post enc Tryz.prog Tryz.f6 false true false false):=by
 refine returnsInHanded_of_change_and (C:=Tryz.checked) (X:=λw _=>laidMetH Tryz.prog zl w) (λ_ _ _ hh h=>h.of_heap hh) own started (by kernel_rfl) Tryz.func6
  (ChangeSpec.witness_shaped (enc:=enc) (C:=Tryz.checked) (os:=os) (X:=λw _=>laidMetH Tryz.prog zl w) false (World.doorLaid Tryz.prog 14 os) #[.string ⟨#[]⟩,.slice none 0 0,.slice none 0 0,.slice none 0 0,.slice none 0 0] 8 rfl (World.shaped_of_RefB (by kernel_rfl) (by kernel_rfl)) (by kernel_rfl) (by kernel_rfl) (by kernel_rfl) (EX os _)) ?_
 intro W base args ds gs before hval0 hW _ _ hL _;have hval: ∀(j:Nat) t v,Tryz.f6.params[j]?=some t->args[j]?=some v->Value.okWide Tryz.prog W .any base t v:=hval0;have hW':=hW;obtain ⟨p,q,Tf,hV,rfl,hfz,hnd⟩:=hW;have hA:DataW.TrodAll enc Tryz.prog W 0 (λ_=>true) true Tryz.f6.params.toList args.toList ds p:=Tf;rw[Tryz.params6]at hA hval;obtain ⟨v0,WP,d0,ds0,p0,q0,hargs,rfl,rfl,h0,r0⟩:=trodAll_cons hA;obtain ⟨v1,vs1,d1,ds1,p1,q1,rfl,rfl,rfl,h1,r1⟩:=trodAll_cons r0;obtain ⟨v2,vs2,d2,ds2,p2,q2,rfl,rfl,rfl,h2,r2⟩:=trodAll_cons r1;obtain ⟨v3,vs3,d3,ds3,p3,q3,rfl,rfl,rfl,h3,r3⟩:=trodAll_cons r2;obtain ⟨v4,vs4,d4,ds4,p4,q4,rfl,rfl,rfl,h4,r4⟩:=trodAll_cons r3;obtain ⟨rfl,rfl,rfl⟩:=trodAll_nil r4;obtain rfl:args= #[v0,v1,v2,v3,v4]:=by cases args;simp_all
 obtain ⟨rfl,rfl⟩:=trodVars_none hV;obtain ⟨m0,hm0,_,_,wm0⟩:=Go.ChangeMaps.open_string Tryz.underlying9 (hval 0 9 v0 rfl rfl) h0;subst hm0;obtain ⟨A1,n1,c1,rfl⟩:=okWide_slice Tryz.underlying27 (hval 1 27 v1 rfl rfl);obtain ⟨A2,n2,c2,rfl⟩:=okWide_slice Tryz.underlying51 (hval 2 51 v2 rfl rfl);obtain ⟨A3,n3,c3,rfl⟩:=okWide_slice Tryz.underlying38 (hval 3 38 v3 rfl rfl);obtain ⟨A4,n4,c4,rfl⟩:=okWide_slice Tryz.underlying38 (hval 4 38 v4 rfl rfl);obtain ⟨x1,s1⟩:=vX (α:=Ent) opens_ents h1;obtain ⟨x2,s2⟩:=vX (α:=Quar) opens_quars h2;obtain ⟨x3,s3⟩:=vX (α:=Int) ul h3;obtain ⟨x4,s4⟩:=vX (α:=Int) ul h4;have hwd:=vB hL;have hlt: ∀x∈p0++(p1++(p2++(p3++(p4++[])))),x.block<W.heap.size:=λx hx=>hW'.lt x (by simpa using hx);clear Tf hval0;refine (lawRj30_any W m0 A1 n1 c1 x1 s1 A2 n2 c2 x2 s2 A3 n3 c3 x3 s3 A4 n4 c4 x4 s4 hwd).mono λe W' ⟨he,hb⟩=>?_;subst he;have stay: ∀(sp:Nat->Bool) (t:TypeId) (v:Value) (dd:DataW H) (ps:List MemPlace),laidOutB Tryz.prog=true->Tryz.prog.readableRec t=true->t<Tryz.prog.types.size->(∀x∈ps,x∈p0++(p1++(p2++(p3++(p4++[])))))->(∀x∈p0++(p1++(p2++(p3++(p4++[])))),sp x.block=true)->DataW.Trod enc Tryz.prog W 0 (λ_=>true) true t v dd ps->DataW.Trod enc Tryz.prog W' 0 sp true t v dd ps:=
  λsp t v dd ps q1 q2 q3 q4 q5 h=>WideElems.Trod_stays q1 q2 q3 h (λx hx=>hb.same (hlt x (q4 x hx))) (λx hx=>q5 x (q4 x hx))
 exact ⟨_,rfl,vg (pa:=p0++(p1++(p2++(p3++(p4++[]))))) (pv:=[]) hW' (λ_ _ _=>trodAll_cons_mk (shut_bool Tryz.underlying4 _) trodAll_mk0)
  (λsp hsp=>(trodAll_cons_mk (stay sp _ _ _ _ wY (by kernel_rfl) (of_decide_eq_true (by kernel_rfl)) (λx hx=>by simp[hx]) (λx hx=>hsp x (by simpa using hx)) h0) (trodAll_cons_mk (stay sp _ _ _ _ wY (by kernel_rfl) (of_decide_eq_true (by kernel_rfl)) (λx hx=>by simp[hx]) (λx hx=>hsp x (by simpa using hx)) h1) (trodAll_cons_mk (stay sp _ _ _ _ wY (by kernel_rfl) (of_decide_eq_true (by kernel_rfl)) (λx hx=>by simp[hx]) (λx hx=>hsp x (by simpa using hx)) h2) (trodAll_cons_mk (stay sp _ _ _ _ wY (by kernel_rfl) (of_decide_eq_true (by kernel_rfl)) (λx hx=>by simp[hx]) (λx hx=>hsp x (by simpa using hx)) h3) (trodAll_cons_mk (stay sp _ _ _ _ wY (by kernel_rfl) (of_decide_eq_true (by kernel_rfl)) (λx hx=>by simp[hx]) (λx hx=>hsp x (by simpa using hx)) h4) trodAll_mk0))))))
  (λ_ _=>rfl) (by simp) hb (ok_one (by kernel_rfl) rfl (okWide_bool_mk Tryz.underlying4 _))⟩
theorem mnrj_joined:joinedFacts Tryz.prog 6 Tryz.f6 Rows.quarantineRejoinsSpec Rows.quarantineRejoinsRow=true:=
 Dm _ _ _ _ _ fcrj_1 wY Jq fcrj_4 fcrj_5 fcrj_6 Fx fcrj_8 Fv fcrj_10 fcrj_11 fcrj_12 fcrj_13 fcrj_14 fcrj_15 fcrj_16 fcrj_17 fcrj_18 fcrj_19 fcrj_20 fcrj_21 fcrj_22 fcrj_23 fcrj_24 Fu Fs fcrj_27 fcrj_28 fcrj_29a fcrj_29 fcrj_30 fcrj_31 fcrj_32
theorem mnrj_wrap:Tryz.f6.isWrapper Tryz.prog Rows.quarantineRejoinsRow.wrapper Rows.quarantineRejoinsRow.mainSum:=by
 unfold Func.isWrapper;first|(rw[if_pos (by decide+kernel)];kernel_rfl)|(rw[if_neg (by decide+kernel)];exact ⟨rfl,rfl⟩)
theorem mnrj_holds:Rows.quarantineRejoinsRow.holds Tryz.pinned (OpenSpec.ofChange Rows.quarantineRejoinsSpec):=
 OpenClaim.holds_of_wide 6 Tryz.f6 rfl rfl rfl rfl rfl rfl rfl ⟨rfl,rfl,rfl,rfl,rfl⟩ rfl rfl rfl rfl rfl fcrj_func Tryz.func6 mnrj_joined
  fcrj_inst mnrj_wrap
  (λos started H enc _=>mnrj_lifted os started H enc)
theorem mnrj_wants: ∀f fn,Tryz.prog.funcNamed "warehouse/warehouselaw30.QuarantineRejoins" =some f->Tryz.prog.funcs[f]?=some fn->false=Tryz.prog.looks []/\ ∀(j:Nat) t,fn.params[j]?=some t->Tryz.prog.wantsStandIn t=false:=by
 intro f fn hf hfn;obtain rfl:f=6:=Option.some.inj (fcrj_func.symm.trans hf) |>.symm
 obtain rfl:fn=Tryz.f6:=(Option.some.inj (Tryz.func6.symm.trans hfn)).symm;refine ⟨Fw,λj t ht=>?_⟩;simpa using List.all_eq_true.1 fcrj_wants t (Array.mem_toList_iff.2 (Array.mem_of_getElem? ht))
theorem quarantineRejoinsProved:Rows.QuarantineRejoinsCardSaid:=
 Claim7.holds_tied_plain_at .later [] [.widerDeep] true Rows.quarantineRejoinsCard.stood.harness false
  mnrj_holds (λ_ h=>by cases h) fcrj_wft (λ_ h=>by cases h) quarantineRejoins_row_tie rfl ⟨rfl,rfl⟩ fcrj_main rfl
  mnrj_wants fcrj_goes
#print axioms quarantineRejoinsProved
end Go.Proofs.YtopjjlmfilgngaaGreatDoor
