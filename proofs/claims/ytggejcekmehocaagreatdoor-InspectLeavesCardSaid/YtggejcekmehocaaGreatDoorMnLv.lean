/-
  For every input the law InspectLeaves returns true, and its arguments read as they did; the listed variable (the reserved words) is tied to the program's text.
-/
import Derived.Test.YtggejcekmehocaaGreatDoorCards
import Derived.Test.YtggejcekmehocaaGreatDoorGaf
import Derived.Test.YtggejcekmehocaaGreatDoorGar
import Derived.Test.YtggejcekmehocaaGreatDoorGab
import Derived.Test.YtggejcekmehocaaGreatDoorFcP
import Derived.Test.YtggejcekmehocaaGreatDoorLwLv
namespace Go.Proofs.YtggejcekmehocaaGreatDoor
set_option maxRecDepth 100000
open Go.ChangeShapes Go.WideShapes Go.ChangeAt Go.RowKit Go.WideElems
set_option linter.unusedVariables false
set_option linter.unusedSimpArgs false
theorem mnlv_lifted (os:Os)(started:os.Started)(H:Type)(enc:TypeId×Value->H):
  ReturnsInHanded {} Tryz.checked os 6 .any (λw args=>(Rows.inspectLeavesSpec.pre enc Tryz.prog Tryz.f6 [] false w args/\laidMetH Tryz.prog laidW w)/\sizedMet enc Tryz.prog Tryz.f6 (OpenSpec.ofChange Rows.inspectLeavesSpec) false w args)
   (Rows.inspectLeavesSpec.post enc Tryz.prog Tryz.f6 false true false false):=by
 refine returnsInHanded_of_change_and (C:=Tryz.checked) (X:=λw _=>laidMetH Tryz.prog laidW w) (λ_ _ _ hh h=>h.of_heap hh) own started (by kernel_rfl) Tryz.func6
  (ChangeSpec.witness_shaped (enc:=enc) (C:=Tryz.checked) (os:=os) (X:=λw _=>laidMetH Tryz.prog laidW w) false (World.doorLaid Tryz.prog 14 os) #[.slice none 0 0,.int .i64 0] 8 rfl (World.shaped_of_RefB (by kernel_rfl) (by kernel_rfl)) (by kernel_rfl) (by kernel_rfl) (by kernel_rfl) (door_met os _)) ?_
 intro W base args ds gs before hval0 hW _ _ hL _
 have hval: ∀(j:Nat) t v,Tryz.f6.params[j]?=some t->args[j]?=some v->Value.okWide Tryz.prog W .any base t v:=hval0
 have hW':=hW
 obtain ⟨p,q,hA0,hV,rfl,hfz,hnd⟩:=hW
 have hA:DataW.TrodAll enc Tryz.prog W 0 (λ_=>true) true Tryz.f6.params.toList args.toList ds p:=hA0
 rw[Tryz.params6]at hA hval
 obtain ⟨v0,vs0,d0,ds0,p0,q0,hargs,rfl,rfl,h0,r0⟩:=trodAll_cons hA
 obtain ⟨v1,vs1,d1,ds1,p1,q1,rfl,rfl,rfl,h1,r1⟩:=trodAll_cons r0
 obtain ⟨rfl,rfl,rfl⟩:=trodAll_nil r1
 obtain rfl:args= #[v0,v1]:=by cases args;simp_all
 obtain ⟨rfl,rfl⟩:=trodVars_none hV
 obtain ⟨A0,n0,c0,rfl⟩:=okWide_slice Tryz.underlying33 (hval 0 33 v0 rfl rfl)
 obtain ⟨m1,hm1,_,_,wm1⟩:=open_int Tryz.underlying3 (hval 1 3 v1 rfl rfl) h1
 subst hm1
 obtain ⟨x0,s0⟩:=in_of_arg (α:=Int) opens_ints h0
 have hwd:=words_of_laid hL
 have hlt: ∀x∈p0++(p1++[]),x.block<W.heap.size:=λx hx=>hW'.lt x (by simpa using hx)
 clear hA0 hval0
 refine (lawLv29_any W A0 n0 c0 x0 s0 m1 (by simp only[Lit.wf,Bool.and_eq_true,decide_eq_true_eq]at wm1;exact wm1) hwd).mono λe W' ⟨he,hb⟩=>?_
 subst he
 have stay: ∀(sp:Nat->Bool) (t:TypeId) (v:Value) (dd:DataW H) (ps:List MemPlace),laidOutB Tryz.prog=true->Tryz.prog.readableRec t=true->t<Tryz.prog.types.size->(∀x∈ps,x∈p0++(p1++[]))->(∀x∈p0++(p1++[]),sp x.block=true)->DataW.Trod enc Tryz.prog W 0 (λ_=>true) true t v dd ps->DataW.Trod enc Tryz.prog W' 0 sp true t v dd ps:=
  λsp t v dd ps q1 q2 q3 q4 q5 h=>WideElems.Trod_stays q1 q2 q3 h (λx hx=>hb.same (hlt x (q4 x hx))) (λx hx=>q5 x (q4 x hx))
 exact ⟨_,rfl,post_of_under (pa:=p0++(p1++[])) (pv:=[]) hW' (λ_ _ _=>trodAll_cons_mk (shut_bool Tryz.underlying4 _) trodAll_mk0)
  (λsp hsp=>(trodAll_cons_mk (stay sp _ _ _ _ fp_laid (by kernel_rfl) (of_decide_eq_true (by kernel_rfl)) (λx hx=>by simp[hx]) (λx hx=>hsp x (by simpa using hx)) h0) (trodAll_cons_mk (stay sp _ _ _ _ fp_laid (by kernel_rfl) (of_decide_eq_true (by kernel_rfl)) (λx hx=>by simp[hx]) (λx hx=>hsp x (by simpa using hx)) h1) trodAll_mk0)))
  (λ_ _=>rfl) (by simp) hb (ok_one (by kernel_rfl) rfl (okWide_bool_mk Tryz.underlying4 _))⟩
theorem mnlv_joined:joinedFacts Tryz.prog 6 Tryz.f6 Rows.inspectLeavesSpec Rows.inspectLeavesRow=true:=
 joined_of _ _ _ _ _ fclv_1 fp_laid fp_maps fclv_4 fclv_5 fclv_6 fp_stops fclv_8 fp_knobs fclv_10 fclv_11 fclv_12 fclv_13 fclv_14 fclv_15 fclv_16 fclv_17 fclv_18 fclv_19 fclv_20 fclv_21 fclv_22 fclv_23 fclv_24 fp_heard fp_enter fclv_27 fclv_28 fclv_29a fclv_29 fclv_30 fclv_31 fclv_32
theorem mnlv_wrap:Tryz.f6.isWrapper Tryz.prog Rows.inspectLeavesRow.wrapper Rows.inspectLeavesRow.mainSum:=by
 unfold Func.isWrapper;first|(rw[if_pos (by decide+kernel)];kernel_rfl)|(rw[if_neg (by decide+kernel)];exact ⟨rfl,rfl⟩)
theorem mnlv_holds:Rows.inspectLeavesRow.holds Tryz.pinned (OpenSpec.ofChange Rows.inspectLeavesSpec):=
 OpenClaim.holds_of_wide 6 Tryz.f6 rfl rfl rfl rfl rfl rfl rfl ⟨rfl,rfl,rfl,rfl,rfl⟩ rfl rfl rfl rfl rfl fclv_func Tryz.func6 mnlv_joined
  fclv_inst mnlv_wrap
  (λos started H enc _=>mnlv_lifted os started H enc)
theorem mnlv_wants: ∀f fn,Tryz.prog.funcNamed "warehouse/warehouselaw29.InspectLeaves" =some f->Tryz.prog.funcs[f]?=some fn->false=Tryz.prog.looks []/\ ∀(j:Nat) t,fn.params[j]?=some t->Tryz.prog.wantsStandIn t=false:=by
 intro f fn hf hfn
 obtain rfl:f=6:=Option.some.inj (fclv_func.symm.trans hf) |>.symm
 obtain rfl:fn=Tryz.f6:=(Option.some.inj (Tryz.func6.symm.trans hfn)).symm
 refine ⟨fp_looks,λj t ht=>?_⟩
 simpa using List.all_eq_true.1 fclv_wants t (Array.mem_toList_iff.2 (Array.mem_of_getElem? ht))
theorem inspectLeavesProved:Rows.InspectLeavesCardSaid:=
 Claim7.holds_tied_plain_at .later [] [.widerDeep] true Rows.inspectLeavesCard.stood.harness false
  mnlv_holds (λ_ h=>by cases h) fclv_wft (λ_ h=>by cases h) inspectLeaves_row_tie rfl ⟨rfl,rfl⟩ fclv_main rfl
  mnlv_wants fclv_goes
#print axioms inspectLeavesProved
end Go.Proofs.YtggejcekmehocaaGreatDoor
