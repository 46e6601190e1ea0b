/-
  Plain law: a table and a change of it: their sum is a table, and the opposite change leads back. No program is in sight. warehouseworld.Change: a bag of changes that turns a table into another one.
-/
import Derived.Test.YthnelebakkggjaaGreatDoorGay
namespace Go.Proofs.YthnelebakkggjaaGreatDoor
set_option maxHeartbeats 8000000
set_option maxRecDepth 100000
set_option linter.unusedSimpArgs false
set_option linter.unusedVariables false
def uY (old:List Ent)(k:Nat)(xs:List Ent):Prop:=
 (∀x∈xs,(-65536<=x.count/\x.count<0)/\ ∃p∈old,p.row=x.row)/\ ∀r,0<=cnt (old.take k) r+cnt xs r
theorem DY {l:List Ent}{k:Nat}{x:Ent}(h:l.drop k=x::l.drop (k+1))(r:List Val):cnt (l.take (k+1)) r=cnt (l.take k) r+(if eZ x.row r=0 then x.count else 0):=by
 rw[gJ h,oD];simp[cnt]
theorem uY.start (old:List Ent):uY old 0 []:=⟨(λx a=>by cases a),λr=>by simp[cnt]⟩
theorem uY.skip {old xs:List Ent}{k:Nat}{p:Ent}(h:uY old k xs)(a:old.drop k=p::old.drop (k+1))(b:0<=p.count):uY old (k+1) xs:=
 ⟨h.1,λr=>by have:=h.2 r;rw[DY a];split<;>omega⟩
theorem uY.take {old xs:List Ent}{k:Nat}{p:Ent}(h:uY old k xs)(b:old.drop k=p::old.drop (k+1))(f:p.count<=65536){d:Int}(c:0<=d)(e:d<p.count):uY old (k+1) (xs++[⟨p.row, -1-d⟩]):=by
 refine⟨λy a=>?_,λr=>?_⟩
 ·rcases List.mem_append.1 a with a|a
  ·exact h.1 y a
  ·simp at a;subst a;exact⟨⟨by show -65536<= -1-d;omega,by show -1-d<0;omega⟩,p,fE b,rfl⟩
 ·have:=h.2 r;rw[DY b,oD];simp only[cnt]
  split<;>omega
def Bu (b:List Ent)(s k:Nat)(xs:List Ent):Prop:= ∃a:List Ent,xs=b++a/\a.length+k<=s/\ ∀x∈a,x.count=1
theorem Bu.start (a:List Ent)(s:Nat):Bu a s s a:=⟨[],by simp,by simp,λx b=>by cases b⟩
theorem Bu.add {b xs:List Ent}{s k:Nat}(h:Bu b s k xs)(f:0<k)(row:List Val):Bu b s (k-1) (xs++[⟨row,1⟩]):=by
 obtain⟨c,rfl,e,d⟩:=h;refine⟨c++[⟨row,1⟩],by simp,by simp;omega,λx a=>?_⟩;rcases List.mem_append.1 a with a|a
 ·exact d x a
 ·simp at a;subst a;rfl
def Cn (old:List Ent)(m:Nat)(xs:List Ent):Prop:= ∃a,uY old old.length a/\Bu a m 0 xs
theorem Cn.mk {old a xs:List Ent}{n s m:Nat}(h:uY old n a)(f:old.length=n)(c:Bu a s 0 xs)(hs:s<=m):Cn old m xs:=by
 subst f;obtain⟨b,d,g,e⟩:=c;exact⟨a,h,b,d,Ho,e⟩
theorem Mh {l:List Ent}(h: ∀x∈l,0<=x.count)(r:List Val):0<=cnt l r:=by
 induction l with
 |nil=>simp[cnt]
 |cons x l b=>
  have c:=h x II;have d:=b λy a=>h y (by simp[a]);rw[cnt]
  split<;>omega
theorem Mi {l:List Ent}(h: ∀x∈l,x.count<=0)(r:List Val):cnt l r<=0:=by
 induction l with
 |nil=>simp[cnt]
 |cons x l b=>
  have c:=h x II;have d:=b λy a=>h y (by simp[a]);rw[cnt]
  split<;>omega
theorem FX {l:List Ent}(h: ∀x∈l,x.count=1)(r:List Val):0<=cnt l r/\cnt l r<=(l.length:Int):=by
 induction l with
 |nil=>simp[cnt]
 |cons x l b=>
  have c:=h x II;have d:=b λy a=>h y (by simp[a]);rw[cnt,List.length_cons]
  split<;>omega
theorem xZ {l:List Ent}{r:List Val}(h:cnt l r≠0): ∃x∈l,x.row=r:=by
 by_cases g: ∃x∈l,x.row=r
 ·exact g
 ·exact absurd (lS λx a e=>g ⟨x,a,iG.1 e⟩) h
theorem yJ {cols:List Col}(c:cols.length<=12){x:Ent}(h:fB cols x.row=0)(a: -65536<=x.count)(b:x.count<=65536):gy x=0:=
 nP.2 ⟨⟨a,b⟩,by rw[yg h];exact c,λv d=>by
  obtain⟨i,hi,rfl⟩:=List.mem_iff_getElem.1 d;exact uG (zy h (List.getElem?_eq_getElem hi))⟩
theorem Ik {cols:List Col}{zs:List Ent}(hb:fA zs=0)(b: ∀x∈zs,0<x.count)(c: ∀x∈zs,fB cols x.row=0):ji cols zs=0:=by
 have d:jE zs=true:=by
  rw[jE,hb];simp only[BEq.rfl,Bool.true_and,List.all_eq_true,decide_eq_true_eq];exact λx a=>by have:=b x a;omega
 rw[ji,if_neg (by simp[hb]),d,if_neg II];exact uo.2 λj x a=>c x (List.mem_iff_getElem?.2 ⟨j,a⟩)
structure Tb (cols:List Col) (L M:Nat) (r:List Ent):Prop where
 err:ji cols r=0
 len:r.length<=L
 top: ∀x∈r,x.count<=(M:Int)
theorem Tb.of {cols:List Col}(a:cols.length<=12){zs:List Ent}(h:u6 cols zs):Tb cols 1000 2000 zs:=
 ⟨(h.tab a).2,(h.bag a).2.2,λx b=>((h.tab a).1 x b).2⟩
theorem Tb.bag {cols:List Col}{L M:Nat}{r:List Ent}(h:Tb cols L M r):fA r=0:=(gz h.err).1
theorem Tb.pos {cols:List Col}{L M:Nat}{r:List Ent}(h:Tb cols L M r): ∀x∈r,0<x.count/\x.count<=65536:=(jS (gz h.err).1 (gz h.err).2.1).2
theorem Tb.fit {cols:List Col}{L M:Nat}{r:List Ent}(h:Tb cols L M r): ∀x∈r,fB cols x.row=0:=(gz h.err).2.2
theorem JW {r:List Ent}(h:fA r=0){M:Nat}(b: ∀x∈r,x.count<=(M:Int))(q:List Val):cnt r q<=M:=by
 by_cases g:cnt r q=0
 ·omega
 ·obtain⟨x,a,rfl⟩:=xZ g;rw[(mO h).mem a];exact b x a
structure Mv (cols:List Col) (r x:List Ent) (m:Nat):Prop where
 bag:fA x=0
 fit: ∀e∈x,fB cols e.row=0
 low: ∀q,0<=cnt r q+cnt x q
 high: ∀q,cnt x q<=(m:Int)
 new: ∃bs:List Ent,bs.length<=m/\ ∀q,cnt r q=0->cnt x q≠0-> ∃e∈bs,e.row=q
theorem Mv.of {cols:List Col}(v:cols.length<=12){old xs zs:List Ent}{q:Int}{L M m:Nat}(A:Tb cols L M old)(u: ∀x∈xs,fB cols x.row=0)(F:Cn old m xs)(G:wE xs q zs):Mv cols old zs m:=by
 obtain⟨i,⟨n,s⟩,j,rfl,I,o⟩:=F;rw[List.take_of_length_le IK]at s;have t: ∀x∈i++j,gy x=0:=λx f=>by
  have k:=u x f;rcases List.mem_append.1 f with f|f
  ·have:=(n x f).1;exact yJ v k Ho Ho
  ·have:=o x f;exact yJ v k Ho Ho
 have w:=zi G;rw[zh t]at w;have a:=xU t;have b:=uj (P:=λr=>fB cols r=0) u;have d:=yu (xs:=i++j);have e:=Cs (i++j);simp only[w]at a b d e;have z:=A.pos;rcases e with e|⟨_,e⟩
 ·have c: ∀r,cnt zs r=cnt i r+cnt j r:=λr=>by rw[d e r,oD]
  refine⟨a,b,λr=>?_,λr=>?_,j,Ho,λr C k=>?_⟩
  ·have:=s r;have:=(FX o r).1;rw[c];omega
  ·have:=(FX o r).2;have:=Mi (l:=i) (λx f=>by have:=(n x f).1;omega) r;rw[c];omega
  ·refine xZ λD=>k ?_;rw[c,D];by_cases g:cnt i r=0
   ·omega
   ·obtain⟨x,f,rfl⟩:=xZ g;obtain⟨_,p,y,H⟩:=n x f;have E:=(mO A.bag).mem y;rw[H,C]at E;have:=z p y;omega
 ·have B:zs=[]:=e;subst B;refine⟨a,b,λr=>?_,λr=>by simp[cnt],[],by simp,λr _ h=>absurd rfl h⟩;have:=Mh (l:=old) (λx f=>by have:=z x f;omega) r;simp only[cnt];omega
theorem MR {xs:List Ent}(g: ∀q, -65536<=cnt xs q/\cnt xs q<=65536){l:List Ent}(m:l.length<=4096)(i: ∀q,cnt xs q≠0-> ∃e∈l,e.row=q):(mE xs).1=0/\(mE xs).2.length<=l.length:=by
 have a:=nQ (oo xs);have b:=lw (iO xs);have c:(iE (iO xs)).length<=l.length:=x9 a b λr h=>i r (by rwa [mh,mq]at h);have d:iN 0 (iO xs)=false:=by
  rw[<-lZ];exact(og _ 0 b Ho).2 ⟨λx j=>by
   have k:=g x.row;have f:=a.mem j;rw[mh,mq]at f;omega,Ho⟩
 rw[mE,d];exact⟨rfl,c⟩
theorem Co {a b:List Ent}(c:fA a=0)(hb:fA b=0):pz a b=mE (a++b):=by
 rw[pz,if_neg (by simp[c]),if_neg (by simp[hb])]
theorem JV {a b:List Ent}(d:fA a=0)(hb:fA b=0): ∀x∈a++b,gy x=0:=λx c=>by
 rcases List.mem_append.1 c with c|c
 ·exact pV d x c
 ·exact pV hb x c
theorem Mv.sum {cols:List Col}{r x:List Ent}{L M m:Nat}(j:Tb cols L M r)(h:Mv cols r x m)(u:L+m<=4096)(v:M+m<=65536):
  (pz r x).1=0/\Tb cols (L+m) (M+m) (pz r x).2/\ ∀q,cnt (pz r x).2 q=cnt r q+cnt x q:=by
 obtain⟨n,w,o⟩:=h.new;have k: ∀q,cnt r q+cnt x q<=(M:Int)+m:=λq=>by
  have f:=JW j.bag j.top q;have i:=h.high q;omega
 have hs:=MR (xs:=r++x) (l:=r++n) (λq=>by
  have f:=h.low q;have i:=k q;rw[oD];omega) (by rw[List.length_append];have:=j.len;omega) (λq p=>by
  rw[oD]at p;by_cases g:cnt r q=0
  ·obtain⟨e,f,i⟩:=o q g Ho;exact⟨e,by simp[f],i⟩
  ·obtain⟨e,f,i⟩:=xZ g;exact⟨e,by simp[f],i⟩)
 have a:=xU (JV j.bag h.bag);have b:=uj (P:=λs=>fB cols s=0) (xs:=r++x) λe d=>by
  rcases List.mem_append.1 d with d|d
  ·exact j.fit e d
  ·exact h.fit e d
 have c: ∀q,cnt (mE (r++x)).2 q=cnt r q+cnt x q:=λq=>by rw[yu hs.1 q,oD]
 rw[Co j.bag h.bag];refine⟨hs.1,⟨Ik a (λe d=>?_) b,?_,λe d=>?_⟩,c⟩
 ·have f:=(mO a).mem d;have i:=h.low e.row;have t:=vg a e d;rw[c]at f;omega
 ·have:=hs.2;rw[List.length_append]at this;have:=j.len;omega
 ·have f:=(mO a).mem d;have i:=k e.row;rw[c]at f;show e.count<=((M+m:Nat):Int);omega
theorem MK (l:List Ent)(q:List Val):cnt (sg (-1) l) q= -cnt l q:=by
 induction l with
 |nil=>simp[sg,cnt]
 |cons x l a=>
  have h:sg (-1) (x::l)=⟨x.row, -1*x.count⟩::sg (-1) l:=rfl;rw[h,cnt,cnt,a];show(if eZ x.row q=0 then -1*x.count else 0)+_=_
  split<;>omega
theorem MI {l:List Ent}(h:lD l):lD (sg (-1) l):=by
 rw[sg,lD,List.pairwise_map];exact h
theorem MJ {l:List Ent}(h:fA l=0):fA (sg (-1) l)=0:=by
 obtain⟨a,b,c⟩:=jR.1 h;refine jR.2 ⟨by rw[ML];exact a,λx d=>?_,MI c⟩;obtain⟨y,e,rfl⟩:=List.mem_map.1 d;obtain⟨f,i⟩:=b y e;obtain⟨g,p2,p3⟩:=nP.1 f;exact⟨nP.2 ⟨by show -65536<= -1*y.count/\ -1*y.count<=65536;omega,p2,p3⟩,by show -1*y.count≠0;omega⟩
theorem Mv.back {cols:List Col}{r x:List Ent}{L M m:Nat}(a:Tb cols L M r)(h:Mv cols r x m)(d:L+m<=4096)(e:M+m<=65536):pz (pz r x).2 (sg (-1) x)=(0,r):=by
 obtain⟨f,b,c⟩:=h.sum a d e;rw[Co b.bag (MJ h.bag),Er (ys:=r) λq=>by rw[oD,c,MK];omega,Iu a.bag]
open Go.RowKit
theorem xm (w:World)(gb:Nat)(A:Option Addr)(n c:Nat)(l:List Int)(i:Nat)(hN:Num w gb A n c l i)(X:Option Addr)(P c1:Nat)(cols:List Col)(hc:Off w gb X P c1 cols)(aK: ∀x∈cols,x.good)(aW:P<=12)(A2:Option Addr)(r c2:Nat)(old:List Ent)(W:Off w gb A2 r c2 old)(aX:r<=2000)(ak: ∀x∈old,1<=x.count/\x.count<=65536)(aJ: ∀x∈old,fB cols x.row=0)(m:Int)(aV:0<=m)(hm:m<=1000):
  Calls Tryz.prog 26 #[.slice X P c1,.slice A2 r c2,.pointer (some ⟨gb,0,none⟩),.int .i64 m] w
   λe w'=> ∃v xs zs q j,e=.returned v/\OE w.heap.size w' v zs/\(∀x∈xs,fB cols x.row=0)/\Cn old m.toNat xs/\wE xs q zs/\Num w' gb A n c l j/\w.grownBy w' (some gb):=by
 have D:=hN.lt;have aj:=Hm hc.inn.len;have HC:=Hm hc;have ag:=Hm W;have q0:IntKind.i64.wrap (m+1)=m+1:=IntWalk.i64_in _ Ho;have ax:Hl (ChgAt w w gb A n c l cols (.slice none 0 0) []):=Hm ⟨OL.nil IK,(λx hx=>by cases hx),⟨_,hN⟩,World.grownBy.refl _ _⟩;have aY:=W.inn.le;have aB:=Hm W.inn.len;clear hN hc W;go_enter Tryz.func26,Tryz.ntmps26;go_wp2;go_loopw [9,10] (λo q wr=> ∃(k:Nat) (xs:List Ent),k<=r/\q=.int .i64 k/\xs.length<=k/\uY old k xs/\ChgAt w wr gb A n c l cols o xs) (λ_ q _=>r-(RowKit.intOf q).toNat)
 case atStart=>exact⟨0,[],Nat.zero_le _,rfl,Nat.le_refl _,uY.start old,ax.o⟩
 case round=>
  obtain⟨k,xs,hk,rfl,a0,ah,y⟩:=hrel;have u:=Hm y;have aa:=Hm ah;obtain⟨O,f⟩:=y.num;clear y ah;by_cases an:k<r
  ·have k0:(0:Int)<=(k:Int):=by omega
   have k1:(k:Int)<(r:Int):=by omega
   go_wp2_with fail;refine(kC wr gb A n c l O f 3 Ho).mono ?_;rintro e w3 ⟨⟨x,j4,rfl,x0,x1,E⟩,L⟩;have az:=Hm E;have C:=Hm (u.o.step D L E);clear f E L x1;have aD:Hl (uY old (k+1) xs):=Hm (by obtain⟨b,off,p,_,_,I,_⟩:=ag.o.entO an;exact aa.o.skip I.o (by have:=ak p (fE I.o);omega));obtain⟨xb,aZ⟩: ∃xb,(x==0)=xb:=⟨_,rfl⟩;cases xb
   ·go_wp2;all_goals(try(exfalso;go_light;simp_all;done));go_roundw
    case rel=>exact⟨k+1,xs,Ho,by go_num,Ho,aD.o,C.o⟩
    case measure=>simp[RowKit.intOf];omega
   ·obtain⟨b,off,p,aH,⟨aR,aI⟩,I,Ax,An,Ac,J,R,e2,e3⟩:=ag.o.entO an;subst aH;have aq:=fE I.o;have aN:=ak p aq;have aC:=Hm (aJ p aq);have Y:=Hm J;have Z:=Hm R;have av:=Hm e2;have t:Hl (some b≠some gb):=Hm λe=>aI (by injection e);replace J:=C.o.grown.cell (a:=⟨b,off+k*2,none⟩) J t.o;replace R:=C.o.grown.cell (a:=⟨b,off+k*2+1,none⟩) R t.o;have aS:=lt_of_cell J;have aO:xs.length+1<=maxLen:=by simp only[maxLen];omega
    have aP:(xs.length+1)*32<=140737488355328:=by omega
    clear e2;go_wp2;go_region_held3 (λV=>V.cell? ⟨b,off+k*2,none⟩=some (.slice Ax An Ac)/\V.cell? ⟨b,off+k*2+1,none⟩=some (.int .i64 p.count))
     (first|exact⟨G.o.grown.cell (a:=⟨b,off+k*2,none⟩) Y.o t.o,G.o.grown.cell (a:=⟨b,off+k*2+1,none⟩) Z.o t.o⟩|exact⟨z.o.grown.cell (a:=⟨b,off+k*2,none⟩) Y.o t.o,z.o.grown.cell (a:=⟨b,off+k*2+1,none⟩) Z.o t.o⟩|exact⟨J,R⟩|go_keep)
     (first
      |(go_at_call 41;refine(kC _ gb A n c l j4 (by exact az.o.b (IJ).drew) p.count Ho).mono ?_;rintro e w5 ⟨⟨d,j5,rfl,d0,d1,ap⟩,al⟩;have d1:=d1 Ho;have dw:IntKind.i64.wrap (-1-d)= -1-d:=IntWalk.i64_in _ Ho;have z:=Hm (C.o.step D (Ck al) ap);have aQ:=z.o.grown.cell (a:=⟨b,off+k*2,none⟩) Y.o t.o;have a1:=z.o.grown.cell (a:=⟨b,off+k*2+1,none⟩) Z.o t.o;have aT:=lt_of_cell aQ;have aG:jP (-1-d):=⟨Ho,Ho⟩;have aF:=Hm (aa.o.take I.o aN.2 d0 d1);clear ap al)
      |(refine vY _ rfl _ _ _ rfl jY (by decide) w5 _ rfl z.o.ol (by simp[Act.eval,Act.put]) (by simp[Act.eval,Act.put]) ⟨p.row, -1-d⟩ ⟨_,_,_,rfl,Nn av.o z.o.grown,aG⟩ aO aP ?_;intro v9 w9 N K M ab;have G:=Hm (z.o.add D (x:=⟨p.row, -1-d⟩) aC.o N K M);clear N K M ab))
    go_wp2;go_roundw
    case rel=>exact⟨k+1,_,Ho,by go_num,by simp;omega,aF.o,G.o⟩
    case measure=>simp[RowKit.intOf];omega
  ·go_wp2_with fail;refine(kC wr gb A n c l O f (m+1) Ho).mono ?_;rintro e w3 ⟨⟨s,j4,rfl,s0,s1,E⟩,L⟩;have s1:=s1 Ho;have C:=Hm (u.o.step D L E);obtain⟨s,rfl⟩: ∃s':Nat,s=(s':Int):=⟨s.toNat,Ho⟩;have s2:s<=1000:=by omega
   have s3:s<=m.toNat:=by omega
   have ay:Hl (uY old r xs):=Hm (by have h:=aa.o;rwa [show k=r by omega]at h);clear f E L s0 s1;go_upto_region 8 with (fail);go_wp2;go_loopw [9,11] (λo q wr=> ∃(k:Nat) (F:List Ent),q=.int .i64 k/\F.length+k<=3000/\Bu xs s k F/\ChgAt w wr gb A n c l cols o F) (λ_ q _=>(RowKit.intOf q).toNat)
   case atStart=>exact⟨s,xs,rfl,Ho,Bu.start xs s,C.o⟩
   case round=>
    obtain⟨k,F,rfl,aU,ai,y⟩:=hrel;have u:=Hm y;have ae:=Hm ai;clear ai;obtain⟨O,f⟩:=y.num;have ar:=y.grown.size;clear y;by_cases aL:0<k
    ·have k0:(0:Int)<(k:Int):=by omega
     have k2:IntKind.i64.wrap ((k:Int)-1)=(k:Int)-1:=IntWalk.i64_in _ Ho;go_wp2_with fail;refine(DR wr gb A n c l O f X P c1 cols (HC.o.grown u.o.grown) aK Ho).mono ?_;rintro e Q ⟨B,d,vs,rfl,U⟩;obtain⟨j3,ao⟩:=U.num;have H:=Hm U;have af:=Hm (u.o.step D U.grown ao);clear U f ao;have aE:Hl (Sl Q (BS w.heap.size (λk=>k≠gb) [67] Q) B P d vs):=Hm (by
      have hl:=H.o.len;obtain⟨A',c',hv,hs,_⟩:=jZ (S:=λ_=>False) (T:=BS w.heap.size (λk=>k≠gb) [67] Q) H.o.stk.own (pW Q _ H.o.stk.ok) (λ_ h=>h.elim) rfl (λg hg ht=>.inr ⟨Nat.le_trans ar hg,_,by simp,ht⟩);injection hv with h1 _ h3;subst h1 h3;rw[hl]at hs;exact hs)
     have aw:Hl (fB cols vs=0):=Hm (DZ (cols:=cols) (x:=⟨vs,1⟩) ⟨by show vs.length=_;rw[H.o.len,aj.o],λi hi=>H.o.fits i (by rw[<-aj.o];exact hi),by show(1:Int)<=1;decide,by show(1:Int)<=2;decide⟩);go_wp2_with (at_builtin;refine gD _ rfl _ _ _ rfl jY (by decide) _ _ rfl af.o.ol rfl rfl ⟨vs,1⟩ ⟨_,_,_,rfl,aE.o,⟨(by show(-9223372036854775808:Int)<=1;decide),(by show(1:Int)<=9223372036854775807;decide)⟩⟩ (by simp only[maxLen];omega) Ho ?_;intro v9 w9 N K M ab);have G:=Hm (af.o.add D (x:=⟨vs,1⟩) aw.o N K M);clear N K M ab;go_wp2;go_roundw
     case rel=>exact⟨k-1,_,by go_num,by simp;omega,ae.o.add aL _,G.o⟩
     case measure=>simp[RowKit.intOf];omega
    ·have aM:k=0:=by omega
     subst aM;have au:=Hm (Cn.mk ay.o aB.o ae.o (m:=m.toNat) Ho);obtain⟨A7,c7,hv,am⟩:=u.o.ol.inn;subst hv;go_wp2_with fail;refine(uN wr A7 _ c7 F am Ho).mono ?_;rintro e Q ⟨⟨v,q,zs,rfl,hf,hn⟩,ac⟩;have HF:=Hm ((hf.ol ac.size).rebase ar);have HN:=Hm hn;have ad:=Hm ac;have aA:=Hm f;clear hf hn ac f am;go_wp2;go_ret;exact⟨v,F,zs,q,O,rfl,HF.o,u.o.ents,au.o,HN.o,aA.o.b ad.o,u.o.grown.trans (Below.grows ad.o _)⟩
end Go.Proofs.YthnelebakkggjaaGreatDoor
