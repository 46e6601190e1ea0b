/-
  quarantine.Waived (slices.ContainsFunc over waivers), ofRelation, otherOf, text; warehouseref30.Waived. CheckReferences, plain: the sum of two tables is a table; the check and its tables have no error; what a row that finds a partner is. Plain law: what Divide answers where no check has an error. No program is in sight. Plain law: a table and a change of it: their sum is a table, and the opposite change leads back. No program is in sight.
-/
import Derived.Test.YtopjjlmfilgngaaGreatDoorGaz
namespace Go.Proofs.YtopjjlmfilgngaaGreatDoor
set_option maxHeartbeats 4000000
set_option maxRecDepth 100000
open Go.RowKit
set_option linter.unusedSimpArgs false
set_option linter.unusedVariables false
theorem NT (w:World)(x:Wvr)(c:Option Addr)(i h:Nat)(C:In w c i h x.row)(name:ByteArray)(s:Nat)(a:w.cell? ⟨s,0,none⟩=some (.string name))(j:Option Addr)(n l:Nat)(row:List Val)(B:In w j n l row)(t:Nat)(b:w.cell? ⟨t,0,none⟩=some (.slice j n l)):
  Calls Tryz.prog 30 #[.agg #[.string x.check,.slice c i h],.pointer (some ⟨s,0,none⟩),.pointer (some ⟨t,0,none⟩)] w λe w'=>e=.returned (.bool (NS name row x))/\Below w.heap.size w w':=by
 have k:=Hm (show NS name row x=(x.check.toList==name.toList&&gq x.row row==0) from rfl);obtain⟨R,v⟩: ∃R,NS name row x=R:=⟨_,rfl⟩;rw[v]at k⊢;clear v;have d:=lt_of_cell a;have f:=lt_of_cell b;cases A:(x.check.toList==name.toList)
 ·obtain rfl:R=false:=by rw[k.o,A];rfl
  go_enter Tryz.func30,Tryz.ntmps30;have d:=lt_of_cell a;have f:=lt_of_cell b;go_wp2_with fail;all_goals(try(exfalso;go_light;simp_all;done));go_ret;exact⟨rfl,fI⟩
 ·have q:=Hm (show R=(gq x.row row==0) from by rw[k.o,A];rfl);go_enter Tryz.func30,Tryz.ntmps30;have F:=Hm C;clear C;have E:=Hm B;clear B;have d:=lt_of_cell a;have f:=lt_of_cell b;go_wp2_with fail;obtain⟨W1,m⟩: ∃W,W=w.alloc (.cells #[.string x.check,.slice c i h] 33):=⟨_,rfl⟩;obtain⟨z,J,p,D⟩:=wX m rfl;rw[<-m];clear m;have H:=rE (qM a) (qM b);have g:=Hm z;clear z;have G:=lt_of_cell p;obtain⟨⟨d,a⟩,f,b⟩:=H.o _ g.o;go_wp2_with fail;refine(lw _ c j i n h l x.row row (F.o.below g.o) (E.o.below g.o)).mono ?_;rintro e K ⟨rfl,y⟩;have I:=rE (qM a) (rE (qM b) (Kg p D));have r:=Hm y;clear y;obtain⟨Q,u⟩: ∃Q,gq x.row row=Q:=⟨_,rfl⟩;rw[u]at q⊢;clear u;obtain rfl:=q.o;obtain⟨⟨d,a⟩,⟨f,b⟩,G,p,D⟩:=I.o _ r.o;go_wp2;all_goals(try(exfalso;go_light;simp_all;done));go_ret;exact⟨rfl,(fH g.o r.o)⟩
theorem AL (w:World)(A:Option Addr)(n c:Nat)(xs:List Wvr)(a:In w A n c xs)(name:ByteArray)(h:Nat)(l:w.cell? ⟨h,0,none⟩=some (.string name))(d:Option Addr)(q g:Nat)(row:List Val)(C:In w d q g row)(j:Nat)(m:w.cell? ⟨j,0,none⟩=some (.slice d q g)):
  Calls Tryz.prog 56 #[.slice A n c,.func (.func 30) #[] #[.pointer (some ⟨h,0,none⟩),.pointer (some ⟨j,0,none⟩)]] w
   λe w'=>e=.returned (.int .i64 (iT (NS name row) 0 xs))/\Below w.heap.size w w':=by
 have M:=a.le;have t:=lt_of_cell l;have u:=lt_of_cell m;obtain⟨P,p⟩: ∃P,NS name row=P:=⟨_,rfl⟩;have r:=Hm λW hb b n c x a=>NT W x b n c a name h (fO hb t l) d q g row (C.below hb) j (fO hb u m);rw[p]at r;rw[p];clear p t u l m C;go_enter Tryz.func56,Tryz.ntmps56;go_wp2;go_loopw [8] (λi wr=> ∃k:Nat,k<=n/\i=.int .i64 k/\iT P 0 xs=iT P k (xs.drop k)/\Below w.heap.size w wr) (λi _=>n-(intOf i).toNat)
 case atStart=>exact⟨0,Nat.zero_le _,rfl,rfl,Below.refl _ _⟩
 case round=>
  obtain⟨k,O,rfl,B,hb⟩:=hrel;have f:=Hm B;clear B;by_cases J:k<n
  ·obtain⟨b,off,x,rfl,N,s,E,K,G,H,I,v,L⟩:=(a.below hb).wvr J;have F:=Hm v;clear v;go_wp2_with fail;refine(r.o _ hb E K G x F.o).mono ?_;rintro e Q ⟨rfl,y⟩;have z:=fH hb y;clear y H I;cases D:P x
   ·go_wp2;all_goals(try(exfalso;go_light;simp_all;done));go_roundw
    case rel=>exact⟨k+1,by omega,by go_num,by rw[f.o,s.o,iT,if_neg (by simp[D])],z⟩
    case measure=>simp[intOf];omega
   ·go_wp2;all_goals(try(exfalso;go_light;simp_all;done));go_ret;exact⟨fV (by rw[f.o,s.o,iT,if_pos D]),z⟩
  ·go_wp2;go_ret;exact⟨fV (by rw[f.o,gG a.len (by omega),iT]),hb⟩
theorem GR (w:World)(A:Option Addr)(n c:Nat)(ws:List Wvr)(i:In w A n c ws)(name:ByteArray)(a:Option Addr)(f d:Nat)(row:List Val)(h:In w a f d row):
  Calls Tryz.prog 10 #[.slice A n c,.string name,.slice a f d] w λe w'=>e=.returned (.bool (kK ws name row))/\Below w.heap.size w w':=by
 have v:=Hm (wy (NS name row) ws 0);have m:=Hm (show kK ws name row=ws.any (NS name row) from rfl);obtain⟨R,D⟩: ∃R,kK ws name row=R:=⟨_,rfl⟩;rw[D]at m⊢;clear D;have I:Hl (∀(W:World),In W A n c ws->In W a f d row-> ∀(j k:Nat),W.cell? ⟨j,0,none⟩=some (.string name)->W.cell? ⟨k,0,none⟩=some (.slice a f d)->
   Calls Tryz.prog 29 #[.slice A n c,.func (.func 30) #[] #[.pointer (some ⟨j,0,none⟩),.pointer (some ⟨k,0,none⟩)]] W λe w'=>e=.returned (.bool R)/\Below W.heap.size W w'):=Hm (by
  intro W i h j k B C;have u:=Hm (AL W A n c ws i name j B a f d row h k C);rw[m.o,<-v.o];obtain⟨F,q⟩: ∃F,iT (NS name row) 0 ws=F:=⟨_,rfl⟩;rw[q]at u;rw[q];clear q B C i h;go_enter Tryz.func29,Tryz.ntmps29;go_wp2_with fail;refine u.o.mono ?_;rintro e V ⟨rfl,P⟩;go_wp2;go_ret;exact⟨rfl,P⟩)
 clear v m;go_enter Tryz.func10,Tryz.ntmps10;have K:=Hm i;clear i;have J:=Hm h;clear h;go_wp2_with fail;obtain⟨W1,r⟩: ∃W,W=w.alloc (.cells #[.string name] 9):=⟨_,rfl⟩;obtain⟨G,M,g⟩:=mY r rfl;rw[<-r];clear r;have z:=Hm G;clear G;have x:=lt_of_cell g;obtain⟨U,s⟩: ∃W,W=W1.alloc (.cells #[.slice a f d] 23):=⟨_,rfl⟩;obtain⟨H,T,l⟩:=mY (b:=w.heap.size+1) s (by rw[M.o]);rw[<-s];clear s;have S:=qM g;have p:=Hm H;clear H;have L:=lt_of_cell l;obtain⟨x,g⟩:=S.o _ p.o;have N:=g;have O:=l;go_wp2_with fail;have t:=Hm (fH z.o p.o);refine(I.o _ (K.o.below t.o) (J.o.below t.o) _ _ N O).mono ?_;rintro e X ⟨rfl,E⟩;have Q:=rE (qM g) (qM l);have y:=Hm E;clear E;obtain⟨⟨x,g⟩,L,l⟩:=Q.o _ y.o;go_wp2;go_ret;exact⟨rfl,(fH (fH z.o p.o) y.o)⟩
theorem zU (w:World)(A:Option Addr)(n c:Nat)(row:List Val)(g:In w A n c row):
  Calls Tryz.prog 38 #[.slice A n c] w λe w'=>e=.returned (.string (iD row))/\Below w.heap.size w w':=by
 have b:=Hm (show iD row=⟨(encS row).2.toArray⟩ from rfl);generalize iD row=R at*;go_enter Tryz.func38,Tryz.ntmps38;go_wp2_with fail;refine(yX _ A n c row (by exact g)).mono ?_;rintro e i ⟨⟨v,rfl,a⟩,hb⟩;obtain⟨h,c1,rfl⟩:=a.form;have f:=DW a rfl;rw[<-b.o]at f;have d:=Hm hb;clear a hb b;go_wp2;go_ret;exact⟨rfl,d.o⟩
theorem Ky:Elem Tryz.prog 39 48 14 184:=mU (.agg #[.string ⟨#[]⟩,.string ⟨#[]⟩,.int .i64 0,.slice none 0 0,.string ⟨#[]⟩,.slice none 0 0,.int .i64 0,.int .i64 0,.slice none 0 0,.int .i64 0,.int .i64 0,.int .i64 0,.int .i64 0,.int .i64 0]) Tryz.underlying39 (by kernel_rfl) rfl (by decide)
theorem ui (w:World)(A:Option Addr)(n c:Nat)(f:List Chk)(p:In w A n c f)(name:ByteArray)(hn:n<=4096):
  Calls Tryz.prog 34 #[.slice A n c,.string name] w
   λe w'=>(∃v,e=.returned v/\OL 48 w.heap.size (λ_=>True) [] w' v (kr f name))/\Below w.heap.size w w':=by
 obtain⟨P,u⟩: ∃P,ownB name=P:=⟨_,rfl⟩;have HP:=Hm u;have C:Hl (kr f name=f.filter P):=Hm (by rw[<-u];rfl);obtain⟨R,V⟩: ∃R,kr f name=R:=⟨_,rfl⟩;rw[V]at C⊢;clear u V;have ay:=p.le;have ad:=Hm p.len;go_enter Tryz.func34,Tryz.ntmps34;have HX:=Hm p;clear p;go_wp2;go_loopw [5,10] (λo i wr=> ∃(k:Nat) (d:List Chk),k<=n/\i=.int .i64 k/\d=(f.take k).filter P/\d.length<=k/\OL 48 w.heap.size (λ_=>True) [] wr o d/\Below w.heap.size w wr) (λ_ i _=>n-(RowKit.intOf i).toNat)
 case atStart=>exact⟨0,[],Nat.zero_le _,rfl,by simp,by simp,OL.nil (Nat.le_refl _),Below.refl _ _⟩
 case round=>
  obtain⟨k,d,h,rfl,ab,aw,z,hb⟩:=hrel;have s:=Hm ab;have a:=Hm hb;clear ab;by_cases au:k<n
  ·obtain⟨bq,oq,y,rfl,b,E,q,B,c1,A2,n2,c2,A3,n3,c3,⟨G,f1,L,M,N,O,Q,S,T,U,H,I,J,K⟩,i1,i2,i3,aa⟩:=HX.o.chk au;have I1:=Hm i1;have I2:=Hm i2;have I3:=Hm i3;clear i1 i2 i3;have aj:=Hm hb;clear hb;have ag:=Hm z;clear z;have k0:(0:Int)<=(k:Int):=by omega
   have k1:(k:Int)<(n:Int):=by omega
   have e0:=fO a.o b G;have e1:=fO a.o b f1;have e2:=fO a.o b L;have e3:=fO a.o b M;have e4:=fO a.o b N;have e5:=fO a.o b O;have e6:=fO a.o b Q;have e7:=fO a.o b S;have e8:=fO a.o b T;have e9:=fO a.o b U;have ak:=fO a.o b H;have al:=fO a.o b I;have am:=fO a.o b J;have an:=fO a.o b K;clear G f1 L M N O Q S T U H I J K;have af:=Hm aa;have D:Hl (P y=(y.table.toList==name.toList&&y.policy==0)):=Hm (by rw[<-HP.o];rfl);clear aa;have aA:=aw;have aq:d.length+1<=maxLen:=by simp only[maxLen];omega
   have ar:(d.length+1)*184<=140737488355328:=by omega
   go_upto_region 5 with (fail);obtain⟨t,x⟩: ∃W,W=wr.alloc (.cells #[.string y.name,.string y.table,.int .i64 y.kind,.slice q B c1,.string y.other,.slice A2 n2 c2,.int .i64 y.low,.int .i64 y.high,.slice A3 n3 c3,.int .i64 y.ln,.int .i64 y.ld,.int .i64 y.mn,.int .i64 y.md,.int .i64 y.policy] 48):=⟨_,rfl⟩;obtain⟨Y,ax,p0,p1,p2,p3,p4,p5,p6,p7,p8,p9,aB,aC,aD,aE⟩:=iE x rfl;rw[<-x];clear x;have F:=Hm Y;clear Y;have LP:=lt_of_cell p0;clear e0 e1 e2 e3 e4 e5 e6 e7 e8 e9 ak al am an;have r:=Hm (ag.o.below F.o);have g:=Hm (fH aj.o F.o);cases m:P y
   ·have l:Hl (d=(f.take (k+1)).filter P):=Hm (by rw[ic E.o,List.filter_append,s.o,List.filter_cons_of_neg (by simp[m])];simp);have j:(y.table.toList==name.toList)=false\/((y.table.toList==name.toList)=true/\(y.policy==0)=false):=by
     have:=D.o;rw[m]at this;cases h1:(y.table.toList==name.toList)
     ·exact .inl rfl
     ·exact .inr ⟨rfl,by rw[h1]at this;simpa using this⟩
    rcases j with j|⟨j,av⟩
    ·go_wp2;all_goals(try(exfalso;go_light;simp_all;done));go_roundw
     case rel=>exact⟨k+1,d,by omega,by go_num,l.o,by omega,r.o,g.o⟩
     case measure=>simp[RowKit.intOf];omega
    ·go_wp2;all_goals(try(exfalso;go_light;simp_all;done));go_roundw
     case rel=>exact⟨k+1,d,by omega,by go_num,l.o,by omega,r.o,g.o⟩
     case measure=>simp[RowKit.intOf];omega
   ·have l:Hl (d++[y]=(f.take (k+1)).filter P):=Hm (by rw[ic E.o,List.filter_append,s.o,List.filter_cons_of_pos (by simp[m])];simp);have j:(y.table.toList==name.toList)=true/\(y.policy==0)=true:=by
     have:=D.o;rw[m]at this;simpa using this.symm
    obtain⟨az,av⟩:=j;have ai:Hl (Rep.rd t (BS w.heap.size (λ_=>True) [] t) [.string y.name,.string y.table,.int .i64 y.kind,.slice q B c1,.string y.other,.slice A2 n2 c2,.int .i64 y.low,.int .i64 y.high,.slice A3 n3 c3,.int .i64 y.ln,.int .i64 y.ld,.int .i64 y.mn,.int .i64 y.md,.int .i64 y.policy] y):=Hm ⟨q,B,c1,A2,n2,c2,A3,n3,c3,rfl,(Sl.keep (Same.below g.o) I1.o).mono λk h=>.inl ⟨trivial,h⟩,(Sl.keep (Same.below g.o) I2.o).mono λk h=>.inl ⟨trivial,h⟩,(Sl.keep (Same.below g.o) I3.o).mono λk h=>.inl ⟨trivial,h⟩,af.o⟩;go_wp2_with (at_builtin;refine gY _ rfl _ _ _ rfl Ky (by simp) t _ rfl r.o rfl rfl y ai.o aq ar ?_;intro v9 w9 Z X ap ao);all_goals(try(exfalso;go_light;simp_all;done));have ae:=Hm Z;have ac:=Hm (g.o.trans X);clear Z X ap ao;go_wp2;all_goals(try(exfalso;go_light;simp_all;done));go_roundw
    case rel=>exact⟨k+1,d++[y],by omega,by go_num,l.o,by simp;omega,ae.o,ac.o⟩
    case measure=>simp[RowKit.intOf];omega
  ·obtain rfl:R=d:=by rw[C.o,s.o,List.take_of_length_le (by rw[ad.o];omega)]
   have ah:=Hm z;go_wp2;go_ret;exact⟨⟨_,rfl,ah.o⟩,a.o⟩
theorem sO {w:World}{g:Nat}{l m n o b c d e:Value}(f:w.cell? ⟨g,0,none⟩=some l)(h:w.cell? ⟨g,1,none⟩=some m)(i:w.cell? ⟨g,2,none⟩=some n)(k:w.cell? ⟨g,3,none⟩=some o):
  ∀j v,[b,c,d,e][j]?=some v->((((w.setCell ⟨g,0,none⟩ b).setCell ⟨g,1,none⟩ c).setCell ⟨g,2,none⟩ d).setCell ⟨g,3,none⟩ e).cell? ⟨g,j,none⟩=some v:=by
 intro j v a
 match j,a with
 | 0,a=>simp at a;subst a;exact fM (fM (fM (iC f) (.inr (by omega))) (.inr (by omega))) (.inr (by omega))
 | 1,a=>simp at a;subst a;exact fM (fM (iC (fM h (.inr (by omega)))) (.inr (by omega))) (.inr (by omega))
 | 2,a=>simp at a;subst a;exact fM (iC (fM (fM i (.inr (by omega))) (.inr (by omega)))) (.inr (by omega))
 | 3,a=>simp at a;subst a;exact iC (fM (fM (fM k (.inr (by omega))) (.inr (by omega))) (.inr (by omega)))
theorem su {p:Rel->Bool}{l:List Rel}{k:Nat}{x:Rel}(h:l.drop k=x::l.drop (k+1)):(l.drop k).find? p=if p x=true then some x else(l.drop (k+1)).find? p:=by
 rw[h,List.find?_cons];cases p x<;>rfl
theorem xW (w:World)(x:Chk)(A:Option Addr)(n c:Nat)(A':Option Addr)(n' c':Nat)(A'':Option Addr)(n'' c'':Nat)(A9:Option Addr)(n9 c9:Nat)(D:List Rel)(hx:In w A9 n9 c9 D):
  Calls Tryz.prog 52 #[.agg (fZ x A n c A' n' c' A'' n'' c'').toArray,.slice A9 n9 c9] w
   λe w'=>(∃on A2 n2 c2 Al nl cl A4 n4 c4,e=.returned (.tuple #[.agg #[.string on,.slice A2 n2 c2,.slice Al nl cl,.slice A4 n4 c4],.int .i64 (gI x D).1])/\In w' A2 n2 c2 (gI x D).2.columns/\In w' A4 n4 c4 (gI x D).2.rows)/\Below w.heap.size w w':=by
 have U:=Hm (show gI x D=if jI x.other=true then(0,ug) else ul (D.find? (zN x.other)) from rfl);obtain⟨R,hR⟩: ∃R,gI x D=R:=⟨_,rfl⟩;rw[hR]at U⊢;clear hR;obtain⟨P,hP⟩: ∃P,zN x.other=P:=⟨_,rfl⟩;have HP:=Hm hP;rw[hP]at U;clear hP;have aw:=hx.le;simp only[fZ];cases hz:x.other.toList.isEmpty;rotate_left
 ·obtain rfl:R=(0,ug):=by rw[U.o,if_pos (by rw[jI];exact hz)]
  go_enter Tryz.func52,Tryz.ntmps52;go_upto_region 1 with (fail);obtain⟨W1,M⟩: ∃W,W=w.alloc (.cells #[.string x.name,.string x.table,.int .i64 x.kind,.slice A n c,.string x.other,.slice A' n' c',.int .i64 x.low,.int .i64 x.high,.slice A'' n'' c'',.int .i64 x.ln,.int .i64 x.ld,.int .i64 x.mn,.int .i64 x.md,.int .i64 x.policy] 48):=⟨_,rfl⟩;obtain⟨aa,X,f,h,r,s,g4,t,u,z,B,C,j,l,m,q⟩:=iE M rfl;rw[<-M];clear M;have ao:=Hm aa;clear aa;have K:=lt_of_cell f;obtain⟨Y,E⟩: ∃W,W=W1.alloc (.cells #[.string ⟨#[]⟩,.slice none 0 0,.slice none 0 0,.slice none 0 0] 29):=⟨_,rfl⟩;obtain⟨ab,ap,g,F,G,H⟩:=jV (b:=w.heap.size+1) E (by rw[X.o]);have a:Hl (iy Y (w.heap.size+1) 29 4):=Hm (by rw[<-X.o,E];exact iy.made _ _ _ _ rfl);rw[<-E];clear E;have ar:=lq f h r s g4 t u z B C j l m q;have ah:=Hm ab;clear ab;have V:=lt_of_cell g;have y0:=a.o.frozen 0;have y1:=a.o.frozen 1;have y2:=a.o.frozen 2;have y3:=a.o.frozen 3;have T:=Hm (fH ao.o ah.o);obtain⟨K,f,h,r,s,g4,t,u,z,B,C,j,l,m,q⟩:=ar.o _ ah.o;go_wp2;all_goals(try(exfalso;go_light;simp_all;done));have J:=Hm ((((T.o.setCell (p:=⟨w.heap.size+1,0,none⟩) (by simp) (.string ⟨#[]⟩)).setCell (p:=⟨w.heap.size+1,1,none⟩) (by simp) (.slice none 0 0)).setCell (p:=⟨w.heap.size+1,2,none⟩) (by simp) (.slice none 0 0)).setCell (p:=⟨w.heap.size+1,3,none⟩) (by simp) (.slice none 0 0));refine bodyPost_ret (v:=.tuple #[.agg #[.string ⟨#[]⟩,.slice none 0 0,.slice none 0 0,.slice none 0 0],.int .i64 0]) (gJ (cs:=[.string ⟨#[]⟩,.slice none 0 0,.slice none 0 0,.slice none 0 0]) rfl _ _ _ _ _ rfl rfl (sO g F G H) Tryz.underlying29 rfl (by kernel_rfl)) rfl ⟨⟨_,none,0,0,none,0,0,none,0,0,rfl,In.nil_,In.nil_⟩,J.o⟩
 have ae:Hl (R=ul (D.find? P)):=Hm (by rw[U.o,if_neg (by rw[jI,hz];simp)]);clear U;have an:=Hm hx;go_enter Tryz.func52,Tryz.ntmps52;have HX:=Hm hx;clear hx;go_upto_region 1 with (fail);obtain⟨W1,M⟩: ∃W,W=w.alloc (.cells #[.string x.name,.string x.table,.int .i64 x.kind,.slice A n c,.string x.other,.slice A' n' c',.int .i64 x.low,.int .i64 x.high,.slice A'' n'' c'',.int .i64 x.ln,.int .i64 x.ld,.int .i64 x.mn,.int .i64 x.md,.int .i64 x.policy] 48):=⟨_,rfl⟩;obtain⟨aa,X,f,h,r,s,g4,t,u,z,B,C,j,l,m,q⟩:=iE M rfl;rw[<-M];clear M;have N:=Hm aa;clear aa;have K:=lt_of_cell f;obtain⟨Y,E⟩: ∃W,W=W1.alloc (.cells #[.string ⟨#[]⟩,.slice none 0 0,.slice none 0 0,.slice none 0 0] 29):=⟨_,rfl⟩;obtain⟨ab,ap,g,F,G,H⟩:=jV (b:=w.heap.size+1) E (by rw[X.o]);have a:Hl (iy Y (w.heap.size+1) 29 4):=Hm (by rw[<-X.o,E];exact iy.made _ _ _ _ rfl);rw[<-E];clear E;have au:=lq f h r s g4 t u z B C j l m q;have L:=Hm ab;clear ab;have V:=lt_of_cell g;obtain⟨K,f,h,r,s,g4,t,u,z,B,C,j,l,m,q⟩:=au.o _ L.o;go_wp2;all_goals(try(exfalso;go_light;simp_all;done));go_loopw [14] (λi wr=> ∃k:Nat,k<=n9/\i=.int .i64 k/\R=ul ((D.drop k).find? P)/\Below Y.heap.size Y wr) (λi _=>n9-(intOf i).toNat)
 case atStart=>exact⟨0,Nat.zero_le _,rfl,ae.o,Below.refl _ _⟩
 case round=>
  obtain⟨k,hk,rfl,aj,hb⟩:=hrel;have HE:=Hm aj;clear aj ae;have ac:=rE (lq f h r s g4 t u z B C j l m q) (kJ g F G H);have d:=Hm hb;clear hb;by_cases aq:k<n9
  ·obtain⟨b,off,y,rfl,hB,ag,O,m1,Z,Q,m2,d2,S,m3,d3,f0,f1,f2,f3,i1,i3⟩:=an.o.rel aq;have ak:=Hm i1;have al:=Hm i3;clear i1 i3;have e0:=fO (fH (fH N.o L.o) d.o) hB f0;have e1:=fO (fH (fH N.o L.o) d.o) hB f1;have e2:=fO (fH (fH N.o L.o) d.o) hB f2;have e3:=fO (fH (fH N.o L.o) d.o) hB f3;clear f0 f1 f2 f3;have k0:(0:Int)<=(k:Int):=by omega
   have k1:(k:Int)<(n9:Int):=by omega
   have af:Hl (P y=(y.name.toList==x.other.toList)):=Hm (by rw[<-HP.o];rfl);obtain⟨⟨K,f,h,r,s,g4,t,u,z,B,C,j,l,m,q⟩,V,g,F,G,H⟩:=ac.o _ d.o;go_upto_region 6 with (fail);obtain⟨W5,ad⟩: ∃W,W=wr.alloc (.cells #[.string y.name,.slice O m1 Z,.slice Q m2 d2,.slice S m3 d3] 29):=⟨_,rfl⟩;obtain⟨ai,av,x0,x1,x2,x3⟩:=jV ad rfl;rw[<-ad];clear ad;have I:=Hm (fH d.o ai);clear ai;have L5:=lt_of_cell x0;cases hq:(y.name.toList==x.other.toList)
   ·have HN:Hl (R=ul ((D.drop (k+1)).find? P)):=Hm (by rw[HE.o,su ag.o,if_neg (by rw[af.o,hq];simp)]);have am:=Hm I.o;obtain⟨⟨K,f,h,r,s,g4,t,u,z,B,C,j,l,m,q⟩,V,g,F,G,H⟩:=ac.o _ I.o;go_wp2;all_goals(try(exfalso;go_light;simp_all;done));go_roundw
    case rel=>exact⟨k+1,by omega,by go_num,HN.o,am.o⟩
    case measure=>simp[intOf];omega
   ·obtain rfl:R=(0,y):=by rw[HE.o,su ag.o,if_pos (by rw[af.o,hq])];rfl
    have y0:=(a.o.below I.o).frozen 0;have y1:=(a.o.below I.o).frozen 1;have y2:=(a.o.below I.o).frozen 2;have y3:=(a.o.below I.o).frozen 3;have T:=Hm (fH (fH N.o L.o) I.o);obtain⟨⟨K,f,h,r,s,g4,t,u,z,B,C,j,l,m,q⟩,V,g,F,G,H⟩:=ac.o _ I.o;go_wp2;all_goals(try(exfalso;go_light;simp_all;done));have J:=Hm ((((T.o.setCell (p:=⟨w.heap.size+1,0,none⟩) (by simp) (.string y.name)).setCell (p:=⟨w.heap.size+1,1,none⟩) (by simp) (.slice O m1 Z)).setCell (p:=⟨w.heap.size+1,2,none⟩) (by simp) (.slice Q m2 d2)).setCell (p:=⟨w.heap.size+1,3,none⟩) (by simp) (.slice S m3 d3));refine bodyPost_ret (v:=.tuple #[.agg #[.string y.name,.slice O m1 Z,.slice Q m2 d2,.slice S m3 d3],.int .i64 0]) (gJ (cs:=[.string y.name,.slice O m1 Z,.slice Q m2 d2,.slice S m3 d3]) rfl _ _ _ _ _ rfl rfl (sO g F G H) Tryz.underlying29 rfl (by kernel_rfl)) rfl ⟨⟨_,O,m1,Z,Q,m2,d2,S,m3,d3,rfl,ak.o.below J.o,al.o.below J.o⟩,J.o⟩
  ·obtain rfl:R=(5,ug):=by rw[HE.o,gG HX.o.len (by omega)];rfl
   have y0:=(a.o.below d.o).frozen 0;have y1:=(a.o.below d.o).frozen 1;have y2:=(a.o.below d.o).frozen 2;have y3:=(a.o.below d.o).frozen 3;have T:=Hm (fH (fH N.o L.o) d.o);obtain⟨⟨K,f,h,r,s,g4,t,u,z,B,C,j,l,m,q⟩,V,g,F,G,H⟩:=ac.o _ d.o;go_wp2;all_goals(try(exfalso;go_light;simp_all;done));have J:=Hm ((((T.o.setCell (p:=⟨w.heap.size+1,0,none⟩) (by simp) (.string ⟨#[]⟩)).setCell (p:=⟨w.heap.size+1,1,none⟩) (by simp) (.slice none 0 0)).setCell (p:=⟨w.heap.size+1,2,none⟩) (by simp) (.slice none 0 0)).setCell (p:=⟨w.heap.size+1,3,none⟩) (by simp) (.slice none 0 0));refine bodyPost_ret (v:=.tuple #[.agg #[.string ⟨#[]⟩,.slice none 0 0,.slice none 0 0,.slice none 0 0],.int .i64 5]) (gJ (cs:=[.string ⟨#[]⟩,.slice none 0 0,.slice none 0 0,.slice none 0 0]) rfl _ _ _ _ _ rfl rfl (sO g F G H) Tryz.underlying29 rfl (by kernel_rfl)) rfl ⟨⟨_,none,0,0,none,0,0,none,0,0,rfl,In.nil_,In.nil_⟩,J.o⟩
theorem uX.cnt {cols:List Col}(b:cols.length<=12){zs:List Ent}(h:uX cols zs)(r:List Val):0<=Proofs.YtopjjlmfilgngaaGreatDoor.cnt zs r/\Proofs.YtopjjlmfilgngaaGreatDoor.cnt zs r<=2000:=by
 have hb:=(h.bag b).1;by_cases q: ∃x∈zs,x.row=r
 ·obtain⟨x,a,rfl⟩:=q;rw[(nK hb).mem a];have:=(h.tab b).1 x a;omega
 ·rw[lu λx a e=>q ⟨x,a,jd.1 e⟩];omega
def PH (r:Rel)(a:List Rel)(zs:List Zone)(c:Chk)(row:List Val):Bool:=iU c r.columns (gI c a).2.columns r.rows (gI c a).2.rows zs row
def Pf (r:Rel)(a:List Rel)(ws:List Wvr)(zs:List Zone)(l:List Chk)(row:List Val):List ByteArray:=(l.filter λc=>PH r a zs c row&&!kK ws c.name row).map Chk.name
theorem filter_one {l:List Ent}(h:mI l){x:Ent}(a:x∈l){q:Ent->Bool}(d: ∀y∈l,q y=true->y.row=x.row):l.filter q=if q x=true then [x] else []:=by
 induction l with
 |nil=>cases a
 |cons z l j=>
  rcases List.mem_cons.1 a with rfl|a
  ·have f:l.filter q=[]:=List.filter_eq_nil_iff.2 λy b g=>by
    have c:=h.head y b;rw[d y (by simp[b]) g]at c;have:=jd.2 (rfl:x.row=x.row);omega
   rw[List.filter_cons,f]
  ·have i:¬q z=true:=λe=>by
    have c:=h.head x a;rw[d z (by simp) e]at c;have:=jd.2 (rfl:x.row=x.row);omega
   rw[List.filter_cons_of_neg i];exact j h.tail a λy b=>d y (by simp[b])
theorem Cf {cols:List Col}(a:gu cols=0){row:List Val}(b:gF cols row=0):row.length<=12/\ ∀v∈row,valid v=true:=by
 have e:=oD b;have d:cols.length<=12:=by
  rw[gu]at a;by_cases q:cols.length<1\/12<cols.length
  ·rw[if_pos q]at a;omega
  ·omega
 refine⟨by omega,λv c=>?_⟩;obtain⟨i,hi⟩:=List.mem_iff_getElem?.1 c;exact BH b hi
theorem Jj {cols:List Col}{rows:List Ent}(a:gu cols=0)(k:iL cols rows=0){x:Ent}(d:x∈rows)(ws:List Wvr)(c:Chk)(q:List Val->Bool):
  mZ ws c (rows.filter λy=>q y.row) (iD x.row)=if (q x.row&&!kK ws c.name x.row)=true then [c.name] else []:=by
 obtain⟨hb,_,b⟩:=gW k;have j:rows.filter (λy=>(decide (iD y.row=iD x.row)&&!kK ws c.name y.row)&&q y.row)=if (q x.row&&!kK ws c.name x.row)=true then [x] else []:=by
  rw[filter_one (nK hb) d (λy l e=>by
   obtain⟨f,g⟩:=Cf a (b y l);obtain⟨h,i⟩:=Cf a (b x d);simp only[Bool.and_eq_true,decide_eq_true_eq]at e;exact(EW f g h i).1 e.1.1)]
  cases m:q x.row<;>cases n:kK ws c.name x.row<;>simp
 rw[mZ,List.filter_filter,j]
 split<;>rfl
theorem Nr {l:List Chk}(p:Chk->Bool):(l.flatMap λc=>if p c=true then [c.name] else [])=(l.filter p).map Chk.name:=by
 induction l with
 |nil=>rfl
 |cons c l a=>
  rw[List.flatMap_cons,a,List.filter_cons];cases p c<;>simp
theorem JK {r:Rel}{a:List Rel}{zs:List Zone}{c:Chk}(h:wQ r a zs c=0):(gI c a).1=0/\gP c r.columns (gI c a).2.columns r.rows (gI c a).2.rows zs=0:=by
 rw[wQ]at h;by_cases b:(gI c a).1=0
 ·rw[if_neg (by simp[b]),rP,jg]at h;refine⟨b,?_⟩;by_cases d:gP c r.columns (gI c a).2.columns r.rows (gI c a).2.rows zs=0
  ·exact d
  ·rw[if_pos d]at h;exact absurd h d
 ·rw[if_pos b]at h;exact absurd h b
theorem Dv {r:Rel}{a:List Rel}{ws:List Wvr}{zs:List Zone}{l:List Chk}(e:gu r.columns=0)(d:iL r.columns r.rows=0)(g: ∀c∈l,wQ r a zs c=0){x:Ent}(h:x∈r.rows):
  sW r a ws zs l (iD x.row)=Pf r a ws zs l x.row:=by
 rw[sW,Pf,<-Nr];rw[List.flatMap_def,List.flatMap_def]
 congr 1
 refine List.map_congr_left λc f=>?_;have b:=(JK (g c f)).2;rw[rP,jg,if_neg (by simp[b])];exact Jj e d h ws c (λrow=>PH r a zs c row)
def zg (r:Rel)(a:List Rel)(ws:List Wvr)(zs:List Zone)(l:List Chk)(row:List Val):Bool:=!(Pf r a ws zs l row).isEmpty
theorem Au {α:Type}{f:Nat->α->Int}{l:List α}(h: ∀i,∀x∈l,f i x=0): ∀k,fQ f k l=0:=by
 induction l with
 |nil=>intro k;rfl
 |cons x l b=>
  intro k;rw[fQ,if_neg (by simp[h k x (by simp)])];exact b (λi y a=>h i y (by simp[a])) (k+1)
theorem OM {r:Rel}{cs:List Chk}{others:List Rel}{ws:List Wvr}{zs:List Zone}(e:gu r.columns=0)(b:iL r.columns r.rows=0)(d: ∀c∈kr cs r.name,wQ r others zs c=0):
  Am r cs others ws zs=(0,r.rows.filter (λx=>!zg r others ws zs (kr cs r.name) x.row),(r.rows.filter λx=>zg r others ws zs (kr cs r.name) x.row).map λx=>⟨r.name,x.row,x.count,Pf r others ws zs (kr cs r.name) x.row⟩):=by
 obtain⟨hb,j,k⟩:=gW b;have i:sV r others zs (kr cs r.name)=0:=Au (λ_ c h=>d c h) 0;rw[Am,if_neg (by simp[i]),if_neg (by simp[hb]),if_neg (by simp[j])];have f:r.rows.filter (λx=>(sW r others ws zs (kr cs r.name) (iD x.row)).isEmpty)=r.rows.filter (λx=>!zg r others ws zs (kr cs r.name) x.row):=
  List.filter_congr λx a=>by rw[Dv e b d a,zg,Bool.not_not]
 have g:r.rows.filter (λx=>!(sW r others ws zs (kr cs r.name) (iD x.row)).isEmpty)=r.rows.filter (λx=>zg r others ws zs (kr cs r.name) x.row):=
  List.filter_congr λx a=>by rw[Dv e b d a,zg]
 rw[f,g]
 congr 2
 refine List.map_congr_left λx a=>?_;rw[Dv e b d (List.mem_filter.1 a).1]
def Fb (old:List Ent)(k:Nat)(xs:List Ent):Prop:=
 (∀x∈xs,(-65536<=x.count/\x.count<0)/\ ∃p∈old,p.row=x.row)/\ ∀r,0<=cnt (old.take k) r+cnt xs r
theorem Mg {l:List Ent}{k:Nat}{x:Ent}(h:l.drop k=x::l.drop (k+1))(r:List Val):cnt (l.take (k+1)) r=cnt (l.take k) r+(if gq x.row r=0 then x.count else 0):=by
 rw[ic h,vX];simp[cnt]
theorem Fb.start (old:List Ent):Fb old 0 []:=⟨(λx a=>by cases a),λr=>by simp[cnt]⟩
theorem Fb.take {old xs:List Ent}{k:Nat}{p:Ent}(h:Fb old k xs)(b:old.drop k=p::old.drop (k+1))(f:p.count<=65536){d:Int}(c:0<=d)(e:d<p.count):Fb old (k+1) (xs++[⟨p.row, -1-d⟩]):=by
 refine⟨λy a=>?_,λr=>?_⟩
 ·rcases List.mem_append.1 a with a|a
  ·exact h.1 y a
  ·simp at a;subst a;exact⟨⟨by show -65536<= -1-d;omega,by show -1-d<0;omega⟩,p,gH b,rfl⟩
 ·have:=h.2 r;rw[Mg b,vX];simp only[cnt]
  split<;>omega
def Fe (b:List Ent)(s k:Nat)(xs:List Ent):Prop:= ∃a:List Ent,xs=b++a/\a.length+k<=s/\ ∀x∈a,x.count=1
theorem Fe.start (a:List Ent)(s:Nat):Fe a s s a:=⟨[],by simp,by simp,λx b=>by cases b⟩
theorem Fe.add {b xs:List Ent}{s k:Nat}(h:Fe b s k xs)(f:0<k)(row:List Val):Fe b s (k-1) (xs++[⟨row,1⟩]):=by
 obtain⟨c,rfl,e,d⟩:=h;refine⟨c++[⟨row,1⟩],by simp,by simp;omega,λx a=>?_⟩;rcases List.mem_append.1 a with a|a
 ·exact d x a
 ·simp at a;subst a;rfl
def JQ (old:List Ent)(m:Nat)(xs:List Ent):Prop:= ∃a,Fb old old.length a/\Fe a m 0 xs
theorem JQ.mk {old a xs:List Ent}{n s m:Nat}(h:Fb old n a)(f:old.length=n)(c:Fe a s 0 xs)(hs:s<=m):JQ old m xs:=by
 subst f;obtain⟨b,d,g,e⟩:=c;exact⟨a,h,b,d,by omega,e⟩
theorem OD {l:List Ent}(h: ∀x∈l,0<=x.count)(r:List Val):0<=cnt l r:=by
 induction l with
 |nil=>simp[cnt]
 |cons x l b=>
  have c:=h x (by simp);have d:=b λy a=>h y (by simp[a]);rw[cnt]
  split<;>omega
theorem OG {l:List Ent}(h: ∀x∈l,x.count<=0)(r:List Val):cnt l r<=0:=by
 induction l with
 |nil=>simp[cnt]
 |cons x l b=>
  have c:=h x (by simp);have d:=b λy a=>h y (by simp[a]);rw[cnt]
  split<;>omega
theorem He {l:List Ent}(h: ∀x∈l,x.count=1)(r:List Val):0<=cnt l r/\cnt l r<=(l.length:Int):=by
 induction l with
 |nil=>simp[cnt]
 |cons x l b=>
  have c:=h x (by simp);have d:=b λy a=>h y (by simp[a]);rw[cnt,List.length_cons]
  split<;>omega
theorem Hd {l:List Ent}{r:List Val}(h:cnt l r≠0): ∃x∈l,x.row=r:=by
 by_cases g: ∃x∈l,x.row=r
 ·exact g
 ·exact absurd (lu λx a e=>g ⟨x,a,jd.1 e⟩) h
theorem yY {cols:List Col}(c:cols.length<=12){x:Ent}(h:gF cols x.row=0)(a: -65536<=x.count)(b:x.count<=65536):ib x=0:=
 sj.2 ⟨⟨a,b⟩,by rw[yD h];exact c,λv d=>by
  obtain⟨i,hi,rfl⟩:=List.mem_iff_getElem.1 d;exact uZ (zO h (List.getElem?_eq_getElem hi))⟩
structure Tb (cols:List Col) (L M:Nat) (r:List Ent):Prop where
 err:iL cols r=0
 len:r.length<=L
 top: ∀x∈r,x.count<=(M:Int)
theorem Tb.of {cols:List Col}(a:cols.length<=12){zs:List Ent}(h:uX cols zs):Tb cols 1000 2000 zs:=
 ⟨(h.tab a).2,(h.bag a).2.2,λx b=>((h.tab a).1 x b).2⟩
theorem Tb.bag {cols:List Col}{L M:Nat}{r:List Ent}(h:Tb cols L M r):gN r=0:=(gW h.err).1
theorem Tb.pos {cols:List Col}{L M:Nat}{r:List Ent}(h:Tb cols L M r): ∀x∈r,0<x.count/\x.count<=65536:=(jm (gW h.err).1 (gW h.err).2.1).2
theorem Tb.fit {cols:List Col}{L M:Nat}{r:List Ent}(h:Tb cols L M r): ∀x∈r,gF cols x.row=0:=(gW h.err).2.2
structure Mv (cols:List Col) (r x:List Ent) (m:Nat):Prop where
 bag:gN x=0
 fit: ∀e∈x,gF cols e.row=0
 low: ∀q,0<=cnt r q+cnt x q
 high: ∀q,cnt x q<=(m:Int)
 new: ∃bs:List Ent,bs.length<=m/\ ∀q,cnt r q=0->cnt x q≠0-> ∃e∈bs,e.row=q
theorem Mv.of {cols:List Col}(v:cols.length<=12){old xs zs:List Ent}{q:Int}{L M m:Nat}(A:Tb cols L M old)(u: ∀x∈xs,gF cols x.row=0)(F:JQ old m xs)(G:yJ xs q zs):Mv cols old zs m:=by
 obtain⟨i,⟨n,s⟩,j,rfl,I,o⟩:=F;rw[List.take_of_length_le (Nat.le_refl _)]at s;have t: ∀x∈i++j,ib x=0:=λx f=>by
  have k:=u x f;rcases List.mem_append.1 f with f|f
  ·have:=(n x f).1;exact yY v k (by omega) (by omega)
  ·have:=o x f;exact yY v k (by omega) (by omega)
 have w:=zB G;rw[zA t]at w;have a:=Cr t;have b:=wV (P:=λr=>gF cols r=0) u;have d:=DD (xs:=i++j);have e:=DF (i++j);simp only[w]at a b d e;have z:=A.pos;rcases e with e|⟨_,e⟩
 ·have c: ∀r,cnt zs r=cnt i r+cnt j r:=λr=>by rw[d e r,vX]
  refine⟨a,b,λr=>?_,λr=>?_,j,by omega,λr C k=>?_⟩
  ·have:=s r;have:=(He o r).1;rw[c];omega
  ·have:=(He o r).2;have:=OG (l:=i) (λx f=>by have:=(n x f).1;omega) r;rw[c];omega
  ·refine Hd λD=>k ?_;rw[c,D];by_cases g:cnt i r=0
   ·omega
   ·obtain⟨x,f,rfl⟩:=Hd g;obtain⟨_,p,y,H⟩:=n x f;have E:=(nK A.bag).mem y;rw[H,C]at E;have:=z p y;omega
 ·have B:zs=[]:=e;subst B;refine⟨a,b,λr=>?_,λr=>by simp[cnt],[],by simp,λr _ h=>absurd rfl h⟩;have:=OD (l:=old) (λx f=>by have:=z x f;omega) r;simp only[cnt];omega
end Go.Proofs.YtopjjlmfilgngaaGreatDoor
