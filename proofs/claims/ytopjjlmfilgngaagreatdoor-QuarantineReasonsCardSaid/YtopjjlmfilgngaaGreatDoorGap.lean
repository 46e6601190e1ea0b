/-
  What the tied rows of chapter 9 share: what the listed variable gives the walks; the arguments' readings; the end of a call that changes nothing below its own blocks. How a check, an inspection and a relation read as arguments.
-/
import Derived.Test.YtopjjlmfilgngaaGreatDoorTie
import Derived.ProofKit
import Derived.OpenShut
import Derived.LaidMore
import Derived.Test.YtopjjlmfilgngaaGreatDoorGao
namespace Go.Proofs.YtopjjlmfilgngaaGreatDoor
open Go.ChangeShapes Go.WideShapes Go.ChangeAt Go.RowKit Go.WideElems
set_option linter.unusedVariables false
set_option linter.unusedSimpArgs false
section
variable {H:Type}{enc:TypeId×Value->H}{P:Program}
theorem AU {f:Func}{s:ChangeSpec}{apart fresh q again:Bool}{W c:World}{args:Array Value}{v:Value}{d e:List (DataW H)}{before pa pv:List MemPlace}(h:DataW.Whole enc P f.params.toList s.vars apart W args.toList d e before)(m: ∀(b:Nat) (sp:Nat->Bool) (hd:Bool),DataW.TrodAll enc P c b sp hd f.resultTypes.toList (v.resultList f.resultTypes.size) (s.fn H (d++e)).results [])(i: ∀sp:Nat->Bool,(∀p∈before,sp p.block=true)->DataW.TrodAll enc P c 0 sp true f.params.toList args.toList (s.fn H (d++e)).args pa)(n: ∀sp:Nat->Bool,(∀p∈before,sp p.block=true)->DataW.TrodVars enc P c sp s.vars (s.fn H (d++e)).vars pv)(g:before=pa++pv)(hb:Below W.heap.size W c)(w: ∀(j:Nat) (t:TypeId) (r:Value),f.resultTypes[j]?=some t->(v.resultList f.resultTypes.size)[j]?=some r->Value.okWide P c .any 0 t r):
  s.post enc P f apart fresh q again W args v c:=by
 have l: ∀p∈before,p.block<W.heap.size:=λp a=>h.lt p a;have hold: ∀p∈before,(λb=>decide (b<W.heap.size)) p.block=true:=λp a=>by simpa using l p a
 refine⟨d,e,before,[],pa,pv,h,m _ _ _,i _ hold,n _ hold,World.keptBut_mono (λp a=>⟨a,?_⟩) (hb.frame (· ∈before)),λ_=>?_⟩
 ·rw[g,List.mem_append]at a;exact Or.inr a
 ·obtain⟨_,_,_,_,_,x,u⟩:=h;refine⟨w,_,_,([]++pa)++pv,⟨[]++pa,pv,trodAll_append (i _ (λ_ _=>rfl)) (m _ _ _),n _ (λ_ _=>rfl),rfl,?_,?_⟩,?_⟩
  ·intro b off a;have k:MemPlace.cell b off∈before:=by rw[g];simpa using a
   rw[hb.frozen (l _ k)];exact x b off k
  ·intro o;have:=u o;rw[g]at this;simpa using this
  ·intro p a _;rw[g];simpa using a
end
abbrev Ew:List (String×DataW Unit):=[("warehouse/token.words",Rows.laid_warehouse_token_words)]
theorem OX:Tryz.prog.globalNamed "warehouse/token.words" =some 0:=by kernel_rfl
theorem O8:(Tryz.prog.globals[0]?).map (·.type)=some 43:=by kernel_rfl
theorem Kv (os:Os)(args:Array Value):laidMetH Tryz.prog Ew ((World.doorLaid Tryz.prog 14 os).forCall (λ_ _=>0) ⟨#[],args,[]⟩).memory:=
 laidMetH_of_parts3 (fuel:=8) (laidMet_of_run' 8 (by kernel_rfl) (by kernel_rfl)) (by kernel_rfl) (by kernel_rfl)
theorem nA {s:ByteArray}{l:List UInt8}(h:s.data.toList=l):s=⟨⟨l⟩⟩:=by
 obtain⟨⟨d⟩⟩:=s;simp only at h;rw[h]
theorem Bl {W:World}(h:laidMetH Tryz.prog Ew W):Words W:=by
 rw[MakeChecks.laidMetH_plain _ _ _ (by kernel_rfl)]at h;obtain⟨ps,⟨Z,t0,X,Y,p0,q0,u,R,S,I,_,_⟩,_,_⟩:=h;obtain rfl:=Option.some.inj (OX.symm.trans u);obtain rfl:=Option.some.inj (O8.symm.trans R);rcases Go.Deep.open_slice Tryz.underlying43 I with ⟨_,p⟩|⟨a,len,cap,m,n,D,U,H,hb,L,N,P,p,hi⟩
 ·simp[Rows.laid_warehouse_token_words]at p
 have g:W.cell? ⟨0,0,none⟩=some (.slice (some a) len cap):=by
  have:=World.var?_cell u S 0;rw[Array.eq_one_of_toList H]at this;simpa using this
 have r:=(Prod.mk.inj p).1;simp only[Rows.laid_warehouse_token_words,DataW.slice.injEq]at r;have t:=r.1;have M:len=8:=by have:=congrArg List.length t;simpa using this.symm
 subst M;have c1:Tryz.prog.cellsOf 9=1:=by kernel_rfl
 have O:cap<=9223372036854775807:=by unfold maxLen at N;omega
 have aa:8<=m:=by rw[P];split<;>omega
 have F: ∀i,i<8-> ∃s:ByteArray,W.cell? (a.add i)=some (.string s)/\D i=.lit (.string s.data.toList):=λi o=>by
  obtain⟨V,d,E⟩:=hi i (by omega);obtain⟨s,rfl,k,_⟩:=DataW.trod_string Tryz.underlying9 E;obtain⟨_,_,g⟩:=World.cells?_some d;have l:=g 0 (by rw[c1];omega);rw[c1,Nat.mul_one]at l;refine⟨s,?_,(Prod.mk.inj k).1⟩;have:(a.add i).add 0=a.add i:=by unfold Addr.add;split<;>simp_all
  rw[this]at l;simpa using l
 obtain⟨f,c⟩:=Go.Deep.choose_lt F;have Q:a.spot=none:=by
  have:=World.cell?_spot (c 0 (by omega)).1;simpa[Addr.add] using this
 obtain⟨b,off,T⟩:=a;obtain rfl:T=none:=Q;have G:b<W.heap.size:=by
  have:=lt_of_cell (c 0 (by omega)).1;simpa[Addr.add] using this
 have J:0<W.heap.size:=lt_of_cell g;have hw: ∀i (h:i<8),f i=words[i]'(by simpa[words] using h):=by
  have e:=t;simp only[List.range,List.range.loop,List.map_cons,List.map_nil,List.cons.injEq]at e;obtain⟨w,x,k,y,z,A,B,C,_⟩:=e;intro i h;have:i=0\/i=1\/i=2\/i=3\/i=4\/i=5\/i=6\/i=7:=by omega
  rcases this with rfl|rfl|rfl|rfl|rfl|rfl|rfl|rfl
  ·have q:=(c 0 (by omega)).2;rw[<-w]at q;simp at q;exact nA q.symm
  ·have q:=(c 1 (by omega)).2;rw[<-x]at q;simp at q;exact nA q.symm
  ·have q:=(c 2 (by omega)).2;rw[<-k]at q;simp at q;exact nA q.symm
  ·have q:=(c 3 (by omega)).2;rw[<-y]at q;simp at q;exact nA q.symm
  ·have q:=(c 4 (by omega)).2;rw[<-z]at q;simp at q;exact nA q.symm
  ·have q:=(c 5 (by omega)).2;rw[<-A]at q;simp at q;exact nA q.symm
  ·have q:=(c 6 (by omega)).2;rw[<-B]at q;simp at q;exact nA q.symm
  ·have q:=(c 7 (by omega)).2;rw[<-C]at q;simp at q;exact nA q.symm
 refine⟨some ⟨b,off,none⟩,8,cap,g,⟨rfl,L,O,(λh=>by cases h),λ_=>⟨b,off,rfl,G,λi v=>?_⟩⟩,J⟩;have o:i<8:=v;refine⟨[.string (words[i]'v)],⟨rfl,?_⟩,λj K=>?_⟩
 ·have:i=0\/i=1\/i=2\/i=3\/i=4\/i=5\/i=6\/i=7:=by omega
  rcases this with rfl|rfl|rfl|rfl|rfl|rfl|rfl|rfl<;>simp[words,ByteArray.size]
 ·obtain rfl:j=0:=by simpa using K
  have d:=(c i o).1;rw[hw i o,mE]at d;show W.cell? ⟨b,off+i*1+0,none⟩=_;rw[show off+i*1+0=off+i by omega];exact d
theorem Gn:pq Tryz.prog 36 Val:=Jp Tryz.underlying36 (by kernel_rfl) ⟨rfl,by kernel_rfl,uI Tryz.underlying3⟩ ⟨rfl,by kernel_rfl,uI Tryz.underlying3⟩ ⟨rfl,by kernel_rfl,sH Tryz.underlying9⟩
theorem Gp:pq Tryz.prog 23 (List Val):=uk Tryz.underlying23 (by kernel_rfl) (by decide) Gn
theorem zF:pq Tryz.prog 38 (List Int):=uk Tryz.underlying38 (by kernel_rfl) (by decide) (uI Tryz.underlying3)
theorem own:ownKnob Tryz.prog.godebug=none:=by kernel_rfl
theorem BN {α:Type}[Rep α]{t:TypeId}(f:pq Tryz.prog t (List α)){H:Type}{enc:TypeId×Value->H}{W:World}{A:Option Addr}{n c:Nat}{d:DataW H}{g:List MemPlace}(h:DataW.Trod enc Tryz.prog W 0 (λ_=>true) true t (.slice A n c) d g): ∃xs:List α,In W A n c xs:=by
 obtain⟨i,b⟩:=h;obtain⟨xs,A',n',c',e,hs⟩:=f H enc W _ _ _ _ _ b;have a:[Value.slice A n c]=[Value.slice A' n' c']:=e;injection a with a _;injection a with e1 e2 e3;subst e1 e2 e3;exact⟨xs,hs⟩
section
variable {P:Program}{t:TypeId}
end
theorem Gm:pq Tryz.prog 43 (List ByteArray):=uk Tryz.underlying43 (by kernel_rfl) (by decide) (sH Tryz.underlying9)
theorem Jt {α:Type}[Rep α]{t:TypeId}(c:pq Tryz.prog t α){H:Type}{enc:TypeId×Value->H}{W:World}{a:Array Value}{d:DataW H}{e:List MemPlace}(h:DataW.Trod enc Tryz.prog W 0 (λ_=>true) true t (.agg a) d e): ∃x:α,Rep.rd W (λk=>k<W.heap.size) a.toList x:=by
 obtain⟨f,b⟩:=h;exact c H enc W _ _ _ _ _ b
theorem DC {a:Array Value}{l:List Value}(h:a.toList=l):a=l.toArray:=by
 cases a;simp_all
end Go.Proofs.YtopjjlmfilgngaaGreatDoor
