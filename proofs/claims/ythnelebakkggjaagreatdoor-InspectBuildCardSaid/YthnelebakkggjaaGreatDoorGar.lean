/-
  What the tied rows of chapter 9 share: what the listed variable gives the walks; the arguments' readings; the end of a call that changes nothing below its own blocks. How a check, an inspection and a relation read as arguments.
-/
import Derived.Test.YthnelebakkggjaaGreatDoorTie
import Derived.ProofKit
import Derived.OpenShut
import Derived.LaidMore
import Derived.Test.YthnelebakkggjaaGreatDoorGaq
namespace Go.Proofs.YthnelebakkggjaaGreatDoor
set_option maxRecDepth 100000
open Go.ChangeShapes Go.WideShapes Go.ChangeAt Go.RowKit Go.WideElems
set_option linter.unusedVariables false
set_option linter.unusedSimpArgs false
section
variable {H:Type}{enc:TypeId×Value->H}{P:Program}
theorem zZ {f:Func}{s:ChangeSpec}{apart fresh q again:Bool}{W c:World}{args:Array Value}{v:Value}{d e:List (DataW H)}{before pa pv:List MemPlace}(h:DataW.Whole enc P f.params.toList s.vars apart W args.toList d e before)(m: ∀(b:Nat) (sp:Nat->Bool) (hd:Bool),DataW.TrodAll enc P c b sp hd f.resultTypes.toList (v.resultList f.resultTypes.size) (s.fn H (d++e)).results [])(i: ∀sp:Nat->Bool,(∀p∈before,sp p.block=true)->DataW.TrodAll enc P c 0 sp true f.params.toList args.toList (s.fn H (d++e)).args pa)(n: ∀sp:Nat->Bool,(∀p∈before,sp p.block=true)->DataW.TrodVars enc P c sp s.vars (s.fn H (d++e)).vars pv)(g:before=pa++pv)(hb:Below W.heap.size W c)(w: ∀(j:Nat) (t:TypeId) (r:Value),f.resultTypes[j]?=some t->(v.resultList f.resultTypes.size)[j]?=some r->Value.okWide P c .any 0 t r):
  s.post enc P f apart fresh q again W args v c:=by
 have l: ∀p∈before,p.block<W.heap.size:=λp a=>h.lt p a;have hold: ∀p∈before,(λb=>decide (b<W.heap.size)) p.block=true:=λp a=>by simpa using l p a
 refine⟨d,e,before,[],pa,pv,h,m _ _ _,i _ hold,n _ hold,World.keptBut_mono (λp a=>⟨a,?_⟩) (hb.frame (· ∈before)),λ_=>?_⟩
 ·rw[g,List.mem_append]at a;exact Or.inr a
 ·obtain⟨_,_,_,_,_,x,u⟩:=h;refine⟨w,_,_,([]++pa)++pv,⟨[]++pa,pv,trodAll_append (i _ (λ_ _=>rfl)) (m _ _ _),n _ (λ_ _=>rfl),rfl,?_,?_⟩,?_⟩
  ·intro b off a;have k:MemPlace.cell b off∈before:=by rw[g];simpa using a
   rw[hb.frozen (l _ k)];exact x b off k
  ·intro o;have:=u o;rw[g]at this;simpa using this
  ·intro p a _;rw[g];simpa using a
end
abbrev Dj:List (String×DataW Unit):=[("warehouse/token.words",Rows.laid_warehouse_token_words)]
theorem Mx:Tryz.prog.globalNamed "warehouse/token.words" =some 0:=by kernel_rfl
theorem MS:(Tryz.prog.globals[0]?).map (·.type)=some 22:=by kernel_rfl
theorem IU (os:Os)(args:Array Value):laidMetH Tryz.prog Dj ((World.doorLaid Tryz.prog 14 os).forCall (λ_ _=>0) ⟨#[],args,[]⟩).memory:=
 laidMetH_of_parts3 (fuel:=8) (laidMet_of_run' 8 (by kernel_rfl) (by kernel_rfl)) (by kernel_rfl) (by kernel_rfl)
theorem mX {s:ByteArray}{l:List UInt8}(h:s.data.toList=l):s=⟨⟨l⟩⟩:=by
 obtain⟨⟨d⟩⟩:=s;simp only at h;rw[h]
theorem Aw {W:World}(h:laidMetH Tryz.prog Dj W):Words W:=by
 rw[MakeChecks.laidMetH_plain _ _ _ (by kernel_rfl)]at h;obtain⟨ps,⟨Z,t0,X,Y,p0,q0,u,R,S,I,_,_⟩,_,_⟩:=h;obtain rfl:=Option.some.inj (Mx.symm.trans u);obtain rfl:=Option.some.inj (MS.symm.trans R);rcases Go.Deep.open_slice Tryz.underlying22 I with ⟨_,p⟩|⟨a,len,cap,m,n,D,U,H,hb,L,N,P,p,hi⟩
 ·simp[Rows.laid_warehouse_token_words]at p
 have g:W.cell? ⟨0,0,none⟩=some (.slice (some a) len cap):=by
  have:=World.var?_cell u S 0;rw[Array.eq_one_of_toList H]at this;simpa using this
 have r:=(Prod.mk.inj p).1;simp only[Rows.laid_warehouse_token_words,DataW.slice.injEq]at r;have t:=r.1;have M:len=8:=by have:=congrArg List.length t;simpa using this.symm
 subst M;have c1:Tryz.prog.cellsOf 9=1:=by kernel_rfl
 have O:cap<=9223372036854775807:=by unfold maxLen at N;omega
 have aa:8<=m:=by rw[P];split<;>omega
 have F: ∀i,i<8-> ∃s:ByteArray,W.cell? (a.add i)=some (.string s)/\D i=.lit (.string s.data.toList):=λi o=>by
  obtain⟨V,d,E⟩:=hi i Ho;obtain⟨s,rfl,k,_⟩:=DataW.trod_string Tryz.underlying9 E;obtain⟨_,_,g⟩:=World.cells?_some d;have l:=g 0 (by rw[c1];omega);rw[c1,Nat.mul_one]at l;refine⟨s,?_,(Prod.mk.inj k).1⟩;have:(a.add i).add 0=a.add i:=by unfold Addr.add;split<;>simp_all
  rw[this]at l;simpa using l
 obtain⟨f,c⟩:=Go.Deep.choose_lt F;have Q:a.spot=none:=by
  have:=World.cell?_spot (c 0 Ho).1;simpa[Addr.add] using this
 obtain⟨b,off,T⟩:=a;obtain rfl:T=none:=Q;have G:b<W.heap.size:=by
  have:=lt_of_cell (c 0 Ho).1;simpa[Addr.add] using this
 have J:0<W.heap.size:=lt_of_cell g;have hw: ∀i (h:i<8),f i=words[i]'(by simpa[words] using h):=by
  have e:=t;simp only[List.range,List.range.loop,List.map_cons,List.map_nil,List.cons.injEq]at e;obtain⟨w,x,k,y,z,A,B,C,_⟩:=e;intro i h;have:i=0\/i=1\/i=2\/i=3\/i=4\/i=5\/i=6\/i=7:=by omega
  rcases this with rfl|rfl|rfl|rfl|rfl|rfl|rfl|rfl
  ·have q:=(c 0 Ho).2;rw[<-w]at q;simp at q;exact mX q.symm
  ·have q:=(c 1 Ho).2;rw[<-x]at q;simp at q;exact mX q.symm
  ·have q:=(c 2 Ho).2;rw[<-k]at q;simp at q;exact mX q.symm
  ·have q:=(c 3 Ho).2;rw[<-y]at q;simp at q;exact mX q.symm
  ·have q:=(c 4 Ho).2;rw[<-z]at q;simp at q;exact mX q.symm
  ·have q:=(c 5 Ho).2;rw[<-A]at q;simp at q;exact mX q.symm
  ·have q:=(c 6 Ho).2;rw[<-B]at q;simp at q;exact mX q.symm
  ·have q:=(c 7 Ho).2;rw[<-C]at q;simp at q;exact mX q.symm
 refine⟨some ⟨b,off,none⟩,8,cap,g,⟨rfl,L,O,(λh=>by cases h),λ_=>⟨b,off,rfl,G,λi v=>?_⟩⟩,J⟩;have o:i<8:=v;refine⟨[.string (words[i]'v)],⟨rfl,?_⟩,λj K=>?_⟩
 ·have:i=0\/i=1\/i=2\/i=3\/i=4\/i=5\/i=6\/i=7:=by omega
  rcases this with rfl|rfl|rfl|rfl|rfl|rfl|rfl|rfl<;>simp[words,ByteArray.size]
 ·obtain rfl:j=0:=by simpa using K
  have d:=(c i o).1;rw[hw i o,jv]at d;show W.cell? ⟨b,off+i*1+0,none⟩=_;rw[show off+i*1+0=off+i by omega];exact d
theorem zm:j6 Tryz.prog 67 Val:=Hr Tryz.underlying67 (by kernel_rfl) ⟨rfl,by kernel_rfl,jN Tryz.underlying3⟩ ⟨rfl,by kernel_rfl,jN Tryz.underlying3⟩ ⟨rfl,by kernel_rfl,kD Tryz.underlying9⟩
theorem Fb:j6 Tryz.prog 28 (List Col):=
 lX Tryz.underlying28 (by kernel_rfl) (by decide) (Hf Tryz.underlying51 (by kernel_rfl) ⟨rfl,by kernel_rfl,kD Tryz.underlying9⟩ ⟨rfl,by kernel_rfl,jN Tryz.underlying3⟩ ⟨rfl,by kernel_rfl,Fa Tryz.underlying4⟩)
theorem Fj:j6 Tryz.prog 52 (List Val):=lX Tryz.underlying52 (by kernel_rfl) (by decide) zm
theorem Ff:j6 Tryz.prog 33 (List Int):=lX Tryz.underlying33 (by kernel_rfl) (by decide) (jN Tryz.underlying3)
theorem DF:j6 Tryz.prog 23 (List Node):=
 lX Tryz.underlying23 (by kernel_rfl) (by decide) (Fh Tryz.underlying69 (by kernel_rfl) ⟨rfl,by kernel_rfl,jN Tryz.underlying3⟩ ⟨rfl,by kernel_rfl,zm⟩ ⟨rfl,by kernel_rfl,kD Tryz.underlying9⟩ ⟨rfl,by kernel_rfl,jN Tryz.underlying3⟩)
theorem own:ownKnob Tryz.prog.godebug=none:=by kernel_rfl
theorem GK {α:Type}[Rep α]{t:TypeId}(f:j6 Tryz.prog t (List α)){H:Type}{enc:TypeId×Value->H}{W:World}{A:Option Addr}{n c:Nat}{d:DataW H}{g:List MemPlace}(h:DataW.Trod enc Tryz.prog W 0 (λ_=>true) true t (.slice A n c) d g): ∃xs:List α,In W A n c xs:=by
 obtain⟨i,b⟩:=h;obtain⟨xs,A',n',c',e,hs⟩:=f H enc W _ _ _ _ _ b;have a:[Value.slice A n c]=[Value.slice A' n' c']:=e;injection a with a _;injection a with e1 e2 e3;subst e1 e2 e3;exact⟨xs,hs⟩
section
variable {P:Program}{t:TypeId}
theorem He {s f1 x z A B C D E F u v:Field}(h:P.underlying t=some (.struct #[s,f1,x,z,A,B,C,D,E,F,u,v]))(hc:P.cellsOf t=14)(G:gL P s 0 ByteArray)(I:gL P f1 1 ByteArray)(L:gL P x 2 Int)(M:gL P z 3 (List ByteArray))(N:gL P A 4 ByteArray)(O:gL P B 5 (List ByteArray))(Q:gL P C 6 Int)(R:gL P D 7 Int)(S:gL P E 8 (List Node))(T:gL P F 9 Shift)(J:gL P u 11 Shift)(K:gL P v 13 Int):j6 P t Chk:=λH enc w b held fuel cs y hy=>by
 obtain⟨xs,n,_,_,hl,ad,a⟩:=DataW.trod_struct h hy
 match xs,ad with
 | [y0,y1,y2,y3,y4,y5,y6,y7,y8,y9,y10,y11],_=>
  rw[hc]at hl;have e0:=a 0 s rfl;rw[G.1,G.2.1]at e0;have e1:=a 1 f1 rfl;rw[I.1,I.2.1]at e1;have e2:=a 2 x rfl;rw[L.1,L.2.1]at e2;have e3:=a 3 z rfl;rw[M.1,M.2.1]at e3;have e4:=a 4 A rfl;rw[N.1,N.2.1]at e4;have e5:=a 5 B rfl;rw[O.1,O.2.1]at e5;have e6:=a 6 C rfl;rw[Q.1,Q.2.1]at e6;have e7:=a 7 D rfl;rw[R.1,R.2.1]at e7;have e8:=a 8 E rfl;rw[S.1,S.2.1]at e8;have e9:=a 9 F rfl;rw[T.1,T.2.1]at e9;have aa:=a 10 u rfl;rw[J.1,J.2.1]at aa;have ab:=a 11 v rfl;rw[K.1,K.2.1]at ab
  match cs,hl with
  | [c0,c1,c2,c3,c4,c5,c6,c7,c8,c9,c10,c11,c12,c13],_=>
   obtain⟨W,r0⟩:=G.2.2 H enc w b held n _ y0 (by simpa using e0);obtain⟨X,r1⟩:=I.2.2 H enc w b held n _ y1 (by simpa using e1);obtain⟨Z,r2⟩:=L.2.2 H enc w b held n _ y2 (by simpa using e2);obtain⟨a3,r3⟩:=M.2.2 H enc w b held n _ y3 (by simpa using e3);obtain⟨a4,r4⟩:=N.2.2 H enc w b held n _ y4 (by simpa using e4);obtain⟨a5,r5⟩:=O.2.2 H enc w b held n _ y5 (by simpa using e5);obtain⟨a6,r6⟩:=Q.2.2 H enc w b held n _ y6 (by simpa using e6);obtain⟨a7,r7⟩:=R.2.2 H enc w b held n _ y7 (by simpa using e7);obtain⟨a8,r8⟩:=S.2.2 H enc w b held n _ y8 (by simpa using e8);obtain⟨r,r9⟩:=T.2.2 H enc w b held n _ y9 (by simpa using e9);obtain⟨q,ae⟩:=J.2.2 H enc w b held n _ y10 (by simpa using aa);obtain⟨Y,af⟩:=K.2.2 H enc w b held n _ y11 (by simpa using ab);obtain⟨c,s0⟩:=r0;obtain⟨d,s1⟩:=r1;obtain⟨g,s2⟩:=r2;obtain⟨A3,n3,k3,i,s3⟩:=r3;obtain⟨j,s4⟩:=r4;obtain⟨U,n5,k5,k,s5⟩:=r5;obtain⟨l,s6⟩:=r6;obtain⟨m,s7⟩:=r7;obtain⟨V,n8,k8,o,s8⟩:=r8;obtain⟨p,s9⟩:=r9;obtain⟨e,ac⟩:=ae;obtain⟨f,ag⟩:=af;have c:[c0]=[.string W]:=c;injection c with c _;subst c;have d:[c1]=[.string X]:=d;injection d with d _;subst d;have g:[c2]=[.int .i64 Z]:=g;injection g with g _;subst g;have i:[c3]=[.slice A3 n3 k3]:=i;injection i with i _;subst i;have j:[c4]=[.string a4]:=j;injection j with j _;subst j;have k:[c5]=[.slice U n5 k5]:=k;injection k with k _;subst k;have l:[c6]=[.int .i64 a6]:=l;injection l with l _;subst l;have m:[c7]=[.int .i64 a7]:=m;injection m with m _;subst m;have o:[c8]=[.slice V n8 k8]:=o;injection o with o _;subst o;have p:[c9,c10]=[.int .i64 r.at_,.int .i64 r.offset]:=p;injection p with p p9;injection p9 with p9 _;subst p p9;have e:[c11,c12]=[.int .i64 q.at_,.int .i64 q.offset]:=e;injection e with e p10;injection p10 with p10 _;subst e p10;have f:[c13]=[.int .i64 Y]:=f;injection f with f _;subst f;exact⟨⟨W,X,Z,a3,a4,a5,a6,a7,a8,r.at_,r.offset,q.at_,q.offset,Y⟩,A3,n3,k3,U,n5,k5,V,n8,k8,rfl,s3,s5,s8,s0,s1,s2,s4,s6,s7,s9.1,s9.2,ac.1,ac.2,ag⟩
end
theorem uS:j6 Tryz.prog 22 (List ByteArray):=lX Tryz.underlying22 (by kernel_rfl) (by decide) (kD Tryz.underlying9)
theorem vQ:j6 Tryz.prog 25 Shift:=DI Tryz.underlying25 (by kernel_rfl) ⟨rfl,by kernel_rfl,jN Tryz.underlying3⟩ ⟨rfl,by kernel_rfl,jN Tryz.underlying3⟩
theorem DD:j6 Tryz.prog 27 Chk:=
 He Tryz.underlying27 (by kernel_rfl) ⟨rfl,by kernel_rfl,kD Tryz.underlying9⟩ ⟨rfl,by kernel_rfl,kD Tryz.underlying9⟩ ⟨rfl,by kernel_rfl,jN Tryz.underlying3⟩ ⟨rfl,by kernel_rfl,uS⟩ ⟨rfl,by kernel_rfl,kD Tryz.underlying9⟩ ⟨rfl,by kernel_rfl,uS⟩ ⟨rfl,by kernel_rfl,jN Tryz.underlying3⟩ ⟨rfl,by kernel_rfl,jN Tryz.underlying3⟩ ⟨rfl,by kernel_rfl,DF⟩ ⟨rfl,by kernel_rfl,vQ⟩ ⟨rfl,by kernel_rfl,vQ⟩ ⟨rfl,by kernel_rfl,jN Tryz.underlying3⟩
theorem Fe:j6 Tryz.prog 30 (List Ent):=
 lX Tryz.underlying30 (by kernel_rfl) (by decide) (Hg Tryz.underlying55 (by kernel_rfl) ⟨rfl,by kernel_rfl,Fj⟩ ⟨rfl,by kernel_rfl,jN Tryz.underlying3⟩)
theorem Fg:j6 Tryz.prog 29 (List (List ByteArray)):=
 lX Tryz.underlying29 (by kernel_rfl) (by decide) uS
theorem tT:j6 Tryz.prog 32 Rel:=
 Hq Tryz.underlying32 (by kernel_rfl) ⟨rfl,by kernel_rfl,kD Tryz.underlying9⟩ ⟨rfl,by kernel_rfl,Fb⟩ ⟨rfl,by kernel_rfl,Fg⟩ ⟨rfl,by kernel_rfl,Fe⟩
theorem wW {α:Type}[Rep α]{t:TypeId}(c:j6 Tryz.prog t α){H:Type}{enc:TypeId×Value->H}{W:World}{a:Array Value}{d:DataW H}{e:List MemPlace}(h:DataW.Trod enc Tryz.prog W 0 (λ_=>true) true t (.agg a) d e): ∃x:α,Rep.rd W (λk=>k<W.heap.size) a.toList x:=by
 obtain⟨f,b⟩:=h;exact c H enc W _ _ _ _ _ b
theorem sN {a:Array Value}{l:List Value}(h:a.toList=l):a=l.toArray:=by
 cases a;simp_all
end Go.Proofs.YthnelebakkggjaaGreatDoor
