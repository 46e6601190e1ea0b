/-
  For every input the law QuarantineReasons returns true, and its arguments read as they did; the listed variable (the reserved words) is tied to the program's text.
-/
import Derived.Test.YtopjjlmfilgngaaGreatDoorGab
import Derived.Test.YtopjjlmfilgngaaGreatDoorFcP
import Derived.Test.YtopjjlmfilgngaaGreatDoorLwRs
namespace Go.Proofs.YtopjjlmfilgngaaGreatDoor
set_option maxRecDepth 100000
open Go.ChangeShapes Go.WideShapes Go.ChangeAt Go.RowKit Go.WideElems
set_option linter.unusedVariables false
set_option linter.unusedSimpArgs false
theorem EE (b:Os)(started:b.Started)(H:Type)(enc:TypeId×Value->H):
  ReturnsInHanded {} Tryz.checked b 7 .any (λw args=>(Rows.quarantineReasonsSpec.pre enc Tryz.prog Tryz.f7 [] false w args/\laidMetH Tryz.prog Ew w)/\sizedMet enc Tryz.prog Tryz.f7 (OpenSpec.ofChange Rows.quarantineReasonsSpec) false w args)
   (Rows.quarantineReasonsSpec.post enc Tryz.prog Tryz.f7 false true false false):=by
 refine returnsInHanded_of_change_and (C:=Tryz.checked) (X:=λw _=>laidMetH Tryz.prog Ew w) (λ_ _ _ R h=>h.of_heap R) own started (by kernel_rfl) Tryz.func7
  (ChangeSpec.witness_shaped (enc:=enc) (C:=Tryz.checked) (os:=b) (X:=λw _=>laidMetH Tryz.prog Ew w) false (World.doorLaid Tryz.prog 14 b) #[.slice none 0 0,.slice none 0 0,.agg #[.string ⟨#[]⟩,.slice none 0 0,.int .i64 0,.slice none 0 0]] 8 rfl (World.shaped_of_RefB (by kernel_rfl) (by kernel_rfl)) (by kernel_rfl) (by kernel_rfl) (by kernel_rfl) (Kv b _)) ?_
 intro W base args M gs before y s _ _ N _;have c: ∀(j:Nat) t v,Tryz.f7.params[j]?=some t->args[j]?=some v->Value.okWide Tryz.prog W .any base t v:=y;have u:=s;obtain⟨p,q,r,O,rfl,ah,ai⟩:=s;have o:DataW.TrodAll enc Tryz.prog W 0 (λ_=>true) true Tryz.f7.params.toList args.toList M p:=r;rw[Tryz.params7]at o c;obtain⟨D,ak,d0,ad,d,q0,ag,rfl,rfl,l,r0⟩:=trodAll_cons o;obtain⟨E,al,d1,ae,f,z,rfl,rfl,rfl,m,r1⟩:=trodAll_cons r0;obtain⟨F,am,d2,af,p2,A,rfl,rfl,rfl,n,r2⟩:=trodAll_cons r1;obtain⟨rfl,rfl,rfl⟩:=trodAll_nil r2;obtain rfl:args= #[D,E,F]:=by cases args;simp_all
 obtain⟨rfl,rfl⟩:=trodVars_none O;obtain⟨G,U,c0,rfl⟩:=okWide_slice Tryz.underlying38 (c 0 38 D rfl rfl);obtain⟨I,V,c1,rfl⟩:=okWide_slice Tryz.underlying38 (c 1 38 E rfl rfl);obtain⟨an,rfl,aj⟩:=okWide_struct Tryz.underlying57 (c 2 57 F rfl rfl);obtain⟨x0,s0⟩:=BN (α:=Int) zF l;obtain⟨x1,s1⟩:=BN (α:=Int) zF m;obtain⟨x2,A2,n2,c2,J,Y,L,P,aa,ab,ac⟩:=Jt EK n;obtain rfl:=DC P;have T:=Bl N;have S: ∀x∈d++(f++(p2++[])),x.block<W.heap.size:=λx a=>u.lt x (by simpa using a);clear r y;refine(Ex W G U c0 x0 s0 I V c1 x1 s1 x2 A2 n2 c2 aa J Y L ab ac T).mono λe K ⟨Q,hb⟩=>?_;subst Q;have stay: ∀(sp:Nat->Bool) (t:TypeId) (v:Value) (i:DataW H) (g:List MemPlace),laidOutB Tryz.prog=true->Tryz.prog.readableRec t=true->t<Tryz.prog.types.size->(∀x∈g,x∈d++(f++(p2++[])))->(∀x∈d++(f++(p2++[])),sp x.block=true)->DataW.Trod enc Tryz.prog W 0 (λ_=>true) true t v i g->DataW.Trod enc Tryz.prog K 0 sp true t v i g:=
  λsp t v i g z A Z B q5 h=>WideElems.Trod_stays z A Z h (λx a=>hb.same (S x (B x a))) (λx a=>q5 x (B x a))
 exact⟨_,rfl,AU (pa:=d++(f++(p2++[]))) (pv:=[]) u (λ_ _ _=>trodAll_cons_mk (shut_bool Tryz.underlying4 _) trodAll_mk0)
  (λsp k=>(trodAll_cons_mk (stay sp _ _ _ _ yx (by kernel_rfl) (of_decide_eq_true (by kernel_rfl)) (λx a=>by simp[a]) (λx a=>k x (by simpa using a)) l) (trodAll_cons_mk (stay sp _ _ _ _ yx (by kernel_rfl) (of_decide_eq_true (by kernel_rfl)) (λx a=>by simp[a]) (λx a=>k x (by simpa using a)) m) (trodAll_cons_mk (stay sp _ _ _ _ yx (by kernel_rfl) (of_decide_eq_true (by kernel_rfl)) (λx a=>by simp[a]) (λx a=>k x (by simpa using a)) n) trodAll_mk0))))
  (λ_ _=>rfl) (by simp) hb (ok_one (by kernel_rfl) rfl (okWide_bool_mk Tryz.underlying4 _))⟩
theorem ED:joinedFacts Tryz.prog 7 Tryz.f7 Rows.quarantineReasonsSpec Rows.quarantineReasonsRow=true:=
 I7 _ _ _ _ _ OP yx Nt OQ OU OV KV OW KT MZ M0 M3 M4 M5 M6 M7 M8 M9 Na Nb Nc Nf Ng Nh KS KP Ni Nj KG Nk Nl Nn Np
theorem Ji:Tryz.f7.isWrapper Tryz.prog Rows.quarantineReasonsRow.wrapper Rows.quarantineReasonsRow.mainSum:=by
 unfold Func.isWrapper;first|(rw[if_pos (by decide+kernel)];kernel_rfl)|(rw[if_neg (by decide+kernel)];exact⟨rfl,rfl⟩)
theorem Gf:Rows.quarantineReasonsRow.holds Tryz.pinned (OpenSpec.ofChange Rows.quarantineReasonsSpec):=
 OpenClaim.holds_of_wide 7 Tryz.f7 rfl rfl rfl rfl rfl rfl rfl ⟨rfl,rfl,rfl,rfl,rfl⟩ rfl rfl rfl rfl rfl BF Tryz.func7 ED
  IM Ji
  (λa started H enc _=>EE a started H enc)
theorem Gg: ∀f a,Tryz.prog.funcNamed "warehouse/warehouselaw30.QuarantineReasons" =some f->Tryz.prog.funcs[f]?=some a->false=Tryz.prog.looks []/\ ∀(j:Nat) t,a.params[j]?=some t->Tryz.prog.wantsStandIn t=false:=by
 intro f a b c;obtain rfl:f=7:=Option.some.inj (BF.symm.trans b) |>.symm
 obtain rfl:a=Tryz.f7:=(Option.some.inj (Tryz.func7.symm.trans c)).symm;refine⟨KU,λj t d=>?_⟩;simpa using List.all_eq_true.1 FO t (Array.mem_toList_iff.2 (Array.mem_of_getElem? d))
theorem quarantineReasonsProved:Rows.QuarantineReasonsCardSaid:=
 Claim7.holds_tied_plain_at .later [] [.widerDeep] true Rows.quarantineReasonsCard.stood.harness false
  Gf (λ_ h=>by cases h) KH (λ_ h=>by cases h) quarantineReasons_row_tie rfl ⟨rfl,rfl⟩ IP rfl
  Gg IL
#print axioms quarantineReasonsProved
end Go.Proofs.YtopjjlmfilgngaaGreatDoor
