/-
  For every input the law CheckViolations returns true, and its arguments read as they did; the listed variable (the reserved words) is tied to the program's text.
-/
import Derived.Test.YtggejcekmehocaaGreatDoorCards
import Derived.Test.YtggejcekmehocaaGreatDoorTop
import Derived.Test.YtggejcekmehocaaGreatDoorGam
import Derived.Test.YtggejcekmehocaaGreatDoorJoi
import Derived.Test.YtggejcekmehocaaGreatDoorFcP
import Derived.Test.YtggejcekmehocaaGreatDoorFcVi
import Derived.Test.YtggejcekmehocaaGreatDoorGbd
namespace Go.Proofs.YtggejcekmehocaaGreatDoor
set_option maxRecDepth 100000
open Go.ChangeShapes Go.WideShapes Go.ChangeAt Go.RowKit Go.WideElems
set_option linter.unusedVariables false
set_option linter.unusedSimpArgs false
theorem EF (os:Os)(started:os.Started)(H:Type)(enc:TypeId×Value->H):
  ReturnsInHanded {} Tryz.checked os 8 .any (λw args=>(Rows.checkViolationsSpec.pre enc Tryz.prog Tryz.f8 [] false w args/\laidMetH Tryz.prog EA w)/\sizedMet enc Tryz.prog Tryz.f8 (OpenSpec.ofChange Rows.checkViolationsSpec) false w args)
   (Rows.checkViolationsSpec.post enc Tryz.prog Tryz.f8 false true false false):=by
 refine returnsInHanded_of_change_and (C:=Tryz.checked) (X:=λw _=>laidMetH Tryz.prog EA w) (λ_ _ _ hh h=>h.of_heap hh) own started (by kernel_rfl) Tryz.func8
  (ChangeSpec.witness_shaped (enc:=enc) (C:=Tryz.checked) (os:=os) (X:=λw _=>laidMetH Tryz.prog EA w) false (World.doorLaid Tryz.prog 14 os) #[.agg #[.string ⟨#[]⟩,.string ⟨#[]⟩,.int .i64 0,.slice none 0 0,.string ⟨#[]⟩,.slice none 0 0,.int .i64 0,.int .i64 0,.slice none 0 0,.int .i64 0,.int .i64 0,.int .i64 0,.int .i64 0,.int .i64 0],.agg #[.string ⟨#[]⟩,.slice none 0 0,.slice none 0 0,.slice none 0 0],.agg #[.string ⟨#[]⟩,.slice none 0 0,.slice none 0 0,.slice none 0 0],.slice none 0 0] 8 rfl (World.shaped_of_RefB (by kernel_rfl) (by kernel_rfl)) (by kernel_rfl) (by kernel_rfl) (by kernel_rfl) (Lr os _)) ?_
 intro W base args ds gs before hval0 hW _ _ hL _
 have hval: ∀(j:Nat) t v,Tryz.f8.params[j]?=some t->args[j]?=some v->Value.okWide Tryz.prog W .any base t v:=hval0
 have hW':=hW
 obtain ⟨p,q,VJ,hV,rfl,hfz,hnd⟩:=hW
 have hA:DataW.TrodAll enc Tryz.prog W 0 (λ_=>true) true Tryz.f8.params.toList args.toList ds p:=VJ
 rw[Tryz.params8]at hA hval
 obtain ⟨v0,vs0,d0,ds0,p0,q0,hargs,rfl,rfl,h0,r0⟩:=trodAll_cons hA
 obtain ⟨v1,vs1,d1,ds1,p1,q1,rfl,rfl,rfl,h1,r1⟩:=trodAll_cons r0
 obtain ⟨v2,vs2,d2,ds2,p2,q2,rfl,rfl,rfl,h2,r2⟩:=trodAll_cons r1
 obtain ⟨v3,vs3,d3,ds3,p3,q3,rfl,rfl,rfl,h3,r3⟩:=trodAll_cons r2
 obtain ⟨rfl,rfl,rfl⟩:=trodAll_nil r3
 obtain rfl:args= #[v0,v1,v2,v3]:=by cases args;simp_all
 obtain ⟨rfl,rfl⟩:=trodVars_none hV
 obtain ⟨ys0,rfl,hsz0⟩:=okWide_struct Tryz.underlying27 (hval 0 27 v0 rfl rfl)
 obtain ⟨ys1,rfl,hsz1⟩:=okWide_struct Tryz.underlying32 (hval 1 32 v1 rfl rfl)
 obtain ⟨ys2,rfl,hsz2⟩:=okWide_struct Tryz.underlying32 (hval 2 32 v2 rfl rfl)
 obtain ⟨A3,n3,c3,rfl⟩:=okWide_slice Tryz.underlying65 (hval 3 65 v3 rfl rfl)
 obtain ⟨x0,A0,n0,c0,YG,UM,c0',VV,XT,Xt,XH,s0a,s0b,s0c,_⟩:=wu EQ h0
 obtain rfl:=qG XH
 obtain ⟨x1,A1,n1,c1,YH,n1',c1',VW,XU,Xu,hcs1,s1a,s1b,s1c,_⟩:=wu rH h1
 obtain rfl:=qG hcs1
 obtain ⟨x2,A2,n2,c2,YI,Gt,c2',VX,XV,Xv,hcs2,s2a,s2b,s2c,_⟩:=wu rH h2
 obtain rfl:=qG hcs2
 obtain ⟨x3,s3⟩:=Jo (α:=Zone) ES h3
 have hwd:=Be hL
 have hlt: ∀x∈p0++(p1++(p2++(p3++[]))),x.block<W.heap.size:=λx hx=>hW'.lt x (by simpa using hx)
 clear VJ hval0
 refine (EB W x0 A0 n0 c0 s0a YG UM c0' s0b VV XT Xt s0c hwd x1.name A1 n1 c1 x1.columns s1a YH n1' c1' VW XU Xu x1.rows s1c x2.name A2 n2 c2 x2.columns s2a YI Gt c2' VX XV Xv x2.rows s2c A3 n3 c3 x3 s3).mono λe W' ⟨he,hb⟩=>?_
 subst he
 have stay: ∀(sp:Nat->Bool) (t:TypeId) (v:Value) (dd:DataW H) (ps:List MemPlace),laidOutB Tryz.prog=true->Tryz.prog.readableRec t=true->t<Tryz.prog.types.size->(∀x∈ps,x∈p0++(p1++(p2++(p3++[]))))->(∀x∈p0++(p1++(p2++(p3++[]))),sp x.block=true)->DataW.Trod enc Tryz.prog W 0 (λ_=>true) true t v dd ps->DataW.Trod enc Tryz.prog W' 0 sp true t v dd ps:=
  λsp t v dd ps q1 q2 q3 q4 q5 h=>WideElems.Trod_stays q1 q2 q3 h (λx hx=>hb.same (hlt x (q4 x hx))) (λx hx=>q5 x (q4 x hx))
 exact ⟨_,rfl,AO (pa:=p0++(p1++(p2++(p3++[])))) (pv:=[]) hW' (λ_ _ _=>trodAll_cons_mk (shut_bool Tryz.underlying4 _) trodAll_mk0)
  (λsp hsp=>(trodAll_cons_mk (stay sp _ _ _ _ uN (by kernel_rfl) (of_decide_eq_true (by kernel_rfl)) (λx hx=>by simp[hx]) (λx hx=>hsp x (by simpa using hx)) h0) (trodAll_cons_mk (stay sp _ _ _ _ uN (by kernel_rfl) (of_decide_eq_true (by kernel_rfl)) (λx hx=>by simp[hx]) (λx hx=>hsp x (by simpa using hx)) h1) (trodAll_cons_mk (stay sp _ _ _ _ uN (by kernel_rfl) (of_decide_eq_true (by kernel_rfl)) (λx hx=>by simp[hx]) (λx hx=>hsp x (by simpa using hx)) h2) (trodAll_cons_mk (stay sp _ _ _ _ uN (by kernel_rfl) (of_decide_eq_true (by kernel_rfl)) (λx hx=>by simp[hx]) (λx hx=>hsp x (by simpa using hx)) h3) trodAll_mk0)))))
  (λ_ _=>rfl) (by simp) hb (ok_one (by kernel_rfl) rfl (okWide_bool_mk Tryz.underlying4 _))⟩
theorem EE:joinedFacts Tryz.prog 8 Tryz.f8 Rows.checkViolationsSpec Rows.checkViolationsRow=true:=
 Js _ _ _ _ _ Q9 uN O0 Ra Rb Rc LP Re LH Ov Ow Ox Oy Oz OA OC OD OG OH OI OJ OM OO OP LG LF OQ OT Lx OU OV OW OX
theorem Jz:Tryz.f8.isWrapper Tryz.prog Rows.checkViolationsRow.wrapper Rows.checkViolationsRow.mainSum:=by
 unfold Func.isWrapper;first|(rw[if_pos (by decide+kernel)];kernel_rfl)|(rw[if_neg (by decide+kernel)];exact ⟨rfl,rfl⟩)
theorem Gp:Rows.checkViolationsRow.holds Tryz.pinned (OpenSpec.ofChange Rows.checkViolationsSpec):=
 OpenClaim.holds_of_wide 8 Tryz.f8 rfl rfl rfl rfl rfl rfl rfl ⟨rfl,rfl,rfl,rfl,rfl⟩ rfl rfl rfl rfl rfl Bj Tryz.func8 EE
  Jc Jz
  (λos started H enc _=>EF os started H enc)
theorem Gq: ∀f fn,Tryz.prog.funcNamed "warehouse/warehouselaw28.CheckViolations" =some f->Tryz.prog.funcs[f]?=some fn->false=Tryz.prog.looks []/\ ∀(j:Nat) t,fn.params[j]?=some t->Tryz.prog.wantsStandIn t=false:=by
 intro f fn hf hfn
 obtain rfl:f=8:=Option.some.inj (Bj.symm.trans hf) |>.symm
 obtain rfl:fn=Tryz.f8:=(Option.some.inj (Tryz.func8.symm.trans hfn)).symm
 refine ⟨LJ,λj t ht=>?_⟩
 simpa using List.all_eq_true.1 F9 t (Array.mem_toList_iff.2 (Array.mem_of_getElem? ht))
theorem checkViolationsProved:Rows.CheckViolationsCardSaid:=
 Claim7.holds_tied_plain_at .later [] [.widerDeep] true Rows.checkViolationsCard.stood.harness false
  Gp (λ_ h=>by cases h) LA (λ_ h=>by cases h) checkViolations_row_tie rfl ⟨rfl,rfl⟩ Jd rfl
  Gq Jb
#print axioms checkViolationsProved
end Go.Proofs.YtggejcekmehocaaGreatDoor
