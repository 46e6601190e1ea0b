/-
  What the tied rows of chapter 9 share: what the listed variable gives the walks; the arguments' readings; the end of a call that changes nothing below its own blocks.
-/
import Derived.Test.YtopjjlmfilgngaaGreatDoorTie
import Derived.WalkKit
import Derived.ProofKit
import Derived.OpenShut
import Derived.Below
import Derived.ChangeSame
import Derived.Carry
import Derived.LaidMore
import Derived.Stop.Joined
import Derived.SevenTiedAt
import Derived.Test.YtopjjlmfilgngaaGreatDoorGag
import Derived.Test.YtopjjlmfilgngaaGreatDoorGae
namespace Go.Proofs.YtopjjlmfilgngaaGreatDoor
open Go.ChangeShapes Go.WideShapes Go.ChangeAt Go.RowKit Go.WideElems
set_option linter.unusedVariables false
set_option linter.unusedSimpArgs false
section
variable {H:Type}{enc:TypeId×Value->H}{P:Program}
theorem Bz {f:Func}{s:ChangeSpec}{apart fresh handsOn again:Bool}{W W':World}{args:Array Value}{v:Value}{ds gs:List (DataW H)}{before pa pv:List MemPlace}(hW:DataW.Whole enc P f.params.toList s.vars apart W args.toList ds gs before)(hres: ∀(b:Nat) (sp:Nat->Bool) (hd:Bool),DataW.TrodAll enc P W' b sp hd f.resultTypes.toList (v.resultList f.resultTypes.size) (s.fn H (ds++gs)).results [])(hargs: ∀sp:Nat->Bool,(∀p∈before,sp p.block=true)->DataW.TrodAll enc P W' 0 sp true f.params.toList args.toList (s.fn H (ds++gs)).args pa)(hvars: ∀sp:Nat->Bool,(∀p∈before,sp p.block=true)->DataW.TrodVars enc P W' sp s.vars (s.fn H (ds++gs)).vars pv)(hps:before=pa++pv)(hb:Below W.heap.size W W')(hok: ∀(j:Nat) (t:TypeId) (r:Value),f.resultTypes[j]?=some t->(v.resultList f.resultTypes.size)[j]?=some r->Value.okWide P W' .any 0 t r):
  s.post enc P f apart fresh handsOn again W args v W':=by
 have hlt: ∀p∈before,p.block<W.heap.size:=λp hp=>hW.lt p hp;have hold: ∀p∈before,(λb=>decide (b<W.heap.size)) p.block=true:=λp hp=>by simpa using hlt p hp
 refine ⟨ds,gs,before,[],pa,pv,hW,hres _ _ _,hargs _ hold,hvars _ hold,World.keptBut_mono (λp hp=>⟨hp,?_⟩) (hb.frame (· ∈before)),λ_=>?_⟩
 ·rw[hps,List.mem_append]at hp;exact Or.inr hp
 ·obtain ⟨_,_,_,_,_,hz,hn⟩:=hW;refine ⟨hok,_,_,([]++pa)++pv,⟨[]++pa,pv,trodAll_append (hargs _ (λ_ _=>rfl)) (hres _ _ _),hvars _ (λ_ _=>rfl),rfl,?_,?_⟩,?_⟩
  ·intro b off hp;have hin:MemPlace.cell b off∈before:=by rw[hps];simpa using hp
   rw[hb.frozen (hlt _ hin)];exact hz b off hin
  ·intro ha;have:=hn ha;rw[hps]at this;simpa using this
  ·intro p hp _;rw[hps];simpa using hp
end
abbrev FK:List (String×DataW Unit):=[("warehouse/token.words",Rows.laid_warehouse_token_words)]
theorem Tz:Tryz.prog.globalNamed "warehouse/token.words" =some 0:=by kernel_rfl
theorem TW:(Tryz.prog.globals[0]?).map (·.type)=some 43:=by kernel_rfl
theorem M0 (os:Os)(args:Array Value):laidMetH Tryz.prog FK ((World.doorLaid Tryz.prog 14 os).forCall (λ_ _=>0) ⟨#[],args,[]⟩).memory:=
 laidMetH_of_parts3 (fuel:=8) (laidMet_of_run' 8 (by kernel_rfl) (by kernel_rfl)) (by kernel_rfl) (by kernel_rfl)
theorem jT {s:ByteArray}{l:List UInt8}(h:s.data.toList=l):s=⟨⟨l⟩⟩:=by
 obtain ⟨⟨d⟩⟩:=s;simp only at h;rw[h]
theorem BO {W:World}(h:laidMetH Tryz.prog FK W):Words W:=by
 rw[MakeChecks.laidMetH_plain _ _ _ (by kernel_rfl)]at h;obtain ⟨ps,⟨g0,t0,cs0,f0,p0,q0,hg0,ht0,hv0,hd0,_,_⟩,_,_⟩:=h;obtain rfl:=Option.some.inj (Tz.symm.trans hg0);obtain rfl:=Option.some.inj (TW.symm.trans ht0);rcases Go.Deep.open_slice Tryz.underlying43 hd0 with ⟨_,hx⟩|⟨a,len,cap,m,n,D,Pl,hcs,hb,hl,hm,hmm,hx,hi⟩
 ·simp[Rows.laid_warehouse_token_words]at hx
 have hcell:W.cell? ⟨0,0,none⟩=some (.slice (some a) len cap):=by
  have:=World.var?_cell hg0 hv0 0;rw[Array.eq_one_of_toList hcs]at this;simpa using this
 have hD:=(Prod.mk.inj hx).1;simp only[Rows.laid_warehouse_token_words,DataW.slice.injEq]at hD;have hD1:=hD.1;have hlen:len=8:=by have:=congrArg List.length hD1;simpa using this.symm
 subst hlen;have c1:Tryz.prog.cellsOf 9=1:=by kernel_rfl
 have hmax:cap<=9223372036854775807:=by unfold maxLen at hm;omega
 have QU:8<=m:=by rw[hmm];split <;> omega
 have hS: ∀i,i<8-> ∃s:ByteArray,W.cell? (a.add i)=some (.string s)/\D i=.lit (.string s.data.toList):=λi Js=>by
  obtain ⟨cs',h1,h2⟩:=hi i (by omega);obtain ⟨s,rfl,e2,_⟩:=DataW.trod_string Tryz.underlying9 h2;obtain ⟨_,_,hcell⟩:=World.cells?_some h1;have h0:=hcell 0 (by rw[c1];omega);rw[c1,Nat.mul_one]at h0;refine ⟨s,?_,(Prod.mk.inj e2).1⟩;have:(a.add i).add 0=a.add i:=by unfold Addr.add;split <;> simp_all
  rw[this]at h0;simpa using h0
 obtain ⟨f,hf⟩:=Go.Deep.choose_lt hS;have hsp:a.spot=none:=by
  have:=World.cell?_spot (hf 0 (by omega)).1;simpa[Addr.add] using this
 obtain ⟨b,off,spot⟩:=a;obtain rfl:spot=none:=hsp;have hblk:b<W.heap.size:=by
  have:=lt_of_cell (hf 0 (by omega)).1;simpa[Addr.add] using this
 have hgl:0<W.heap.size:=lt_of_cell hcell;have hw: ∀i (h:i<8),f i=words[i]'(by simpa[words] using h):=by
  have e:=hD1;simp only[List.range,List.range.loop,List.map_cons,List.map_nil,List.cons.injEq]at e;obtain ⟨e0,e1,e2,e3,e4,e5,e6,e7,_⟩:=e;intro i h;have:i=0\/i=1\/i=2\/i=3\/i=4\/i=5\/i=6\/i=7:=by omega
  rcases this with rfl|rfl|rfl|rfl|rfl|rfl|rfl|rfl
  ·have q:=(hf 0 (by omega)).2;rw[<-e0]at q;simp at q;exact jT q.symm
  ·have q:=(hf 1 (by omega)).2;rw[<-e1]at q;simp at q;exact jT q.symm
  ·have q:=(hf 2 (by omega)).2;rw[<-e2]at q;simp at q;exact jT q.symm
  ·have q:=(hf 3 (by omega)).2;rw[<-e3]at q;simp at q;exact jT q.symm
  ·have q:=(hf 4 (by omega)).2;rw[<-e4]at q;simp at q;exact jT q.symm
  ·have q:=(hf 5 (by omega)).2;rw[<-e5]at q;simp at q;exact jT q.symm
  ·have q:=(hf 6 (by omega)).2;rw[<-e6]at q;simp at q;exact jT q.symm
  ·have q:=(hf 7 (by omega)).2;rw[<-e7]at q;simp at q;exact jT q.symm
 refine ⟨some ⟨b,off,none⟩,8,cap,hcell,⟨rfl,hl,hmax,(λh=>by cases h),λ_=>⟨b,off,rfl,hblk,λi hi'=>?_⟩⟩,hgl⟩;have Js:i<8:=hi';refine ⟨[.string (words[i]'hi')],⟨rfl,?_⟩,λj hj=>?_⟩
 ·have:i=0\/i=1\/i=2\/i=3\/i=4\/i=5\/i=6\/i=7:=by omega
  rcases this with rfl|rfl|rfl|rfl|rfl|rfl|rfl|rfl <;> simp[words,ByteArray.size]
 ·obtain rfl:j=0:=by simpa using hj
  have h1:=(hf i Js).1;rw[hw i Js,jw]at h1;show W.cell? ⟨b,off+i*1+0,none⟩=_;rw[show off+i*1+0=off+i by omega];exact h1
theorem zO:EI Tryz.prog 38 (List Int):=FY Tryz.underlying38 (by kernel_rfl) (by decide) (KV Tryz.underlying3)
theorem own:ownKnob Tryz.prog.godebug=none:=by kernel_rfl
theorem Cr {α:Type}[Rep α]{t:TypeId}(hop:EI Tryz.prog t (List α)){H:Type}{enc:TypeId×Value->H}{W:World}{A:Option Addr}{n c:Nat}{d:DataW H}{ps:List MemPlace}(h:DataW.Trod enc Tryz.prog W 0 (λ_=>true) true t (.slice A n c) d ps): ∃xs:List α,In W A n c xs:=by
 obtain ⟨fu,hf⟩:=h;obtain ⟨xs,A',n',c',hl,hs⟩:=hop H enc W _ _ _ _ _ hf;have hl':[Value.slice A n c]=[Value.slice A' n' c']:=hl;injection hl' with hl' _;injection hl' with e1 e2 e3;subst e1 e2 e3;exact ⟨xs,hs⟩
end Go.Proofs.YtopjjlmfilgngaaGreatDoor
