/-
  quarantine.Reasons. (Printed by gen_rsa.py.)
-/
import Derived.Test.YtopjjlmfilgngaaGreatDoorExq
namespace Go.Proofs.YtopjjlmfilgngaaGreatDoor
set_option maxHeartbeats 4000000
set_option maxRecDepth 100000
open Go.RowKit Go.Maps
set_option linter.unusedSimpArgs false
set_option linter.unusedVariables false
instance:Rep Rsn where
 size:=3
 rd w S cs x:= ∃A n c A' n' c',cs=[.string x.name,.slice A n c,.slice A' n' c']/\Sl w S A n c x.values/\Sl w S A' n' c' x.rows
 len h:=by obtain⟨_,_,_,_,_,_,rfl,_⟩:=h;rfl
 keep hs h:=by obtain⟨A,n,c,A',n',c',rfl,h,h2⟩:=h;exact⟨A,n,c,A',n',c',rfl,h.keep hs,h2.keep hs⟩
 mono hs h:=by obtain⟨A,n,c,A',n',c',rfl,h,h2⟩:=h;exact⟨A,n,c,A',n',c',rfl,h.mono hs,h2.mono hs⟩
instance:One Rsn:=⟨by rintro w S cs a ⟨A,n,c,A',n',c',rfl,_⟩ u hu;simp at hu;rcases hu with rfl|rfl|rfl<;>rfl⟩
theorem BD:Elem Tryz.prog 73 78 3 64:=mU (.agg #[.string ⟨#[]⟩,.slice none 0 0,.slice none 0 0]) Tryz.underlying73 (by kernel_rfl) rfl (by decide)
def Gh (nm:ByteArray)(c:Chk):Bool:=c.name.toList==nm.toList
def tC (own:List Chk)(a:List Rel)(b:List Col)(d:List Ent)(zs:List Zone)(row:List Val)(nm:ByteArray):Int×Rsn:=
 match own.find? (Gh nm) with
 |none=>(5,jT)
 |some c=>if (gI c a).1≠0 then((gI c a).1,jT) else ql c b (gI c a).2.columns d (gI c a).2.rows zs row
theorem Cc {own:List Chk}{others:List Rel}{rc:List Col}{rr:List Ent}{zs:List Zone}{row:List Val}{nm:ByteArray}(h:own.find? (Gh nm)=none):tC own others rc rr zs row nm=(5,jT):=by rw[tC,h]
theorem xB {own:List Chk}{others:List Rel}{rc:List Col}{rr:List Ent}{zs:List Zone}{row:List Val}{nm:ByteArray}{c:Chk}(h:own.find? (Gh nm)=some c):tC own others rc rr zs row nm=if (gI c others).1≠0 then((gI c others).1,jT) else ql c rc (gI c others).2.columns rr (gI c others).2.rows zs row:=by rw[tC,h]
def pg (one:ByteArray->Int×Rsn)(names:List ByteArray):Int×List Rsn:=
 match names.find? (λnm=>(one nm).1 != 0) with
 |some nm=>((one nm).1,[])
 |none=>(0,names.map λnm=>(one nm).2)
theorem rH {one:ByteArray->Int×Rsn}: ∀{l:List ByteArray} {k:Nat} {x:ByteArray} {t:List ByteArray},(∀nm∈l.take k,(one nm).1=0)->l.drop k=x::t->(one x).1≠0->pg one l=((one x).1,[]):=by
 intro l k x t a b c;have e:l.find? (λnm=>(one nm).1 != 0)=some x:=by
  rw[<-List.take_append_drop k l,List.find?_append,b];have:(l.take k).find? (λnm=>(one nm).1 != 0)=none:=List.find?_eq_none.2 λy d=>by simp[a y d]
  rw[this];simp[c]
 rw[pg,e]
theorem Dm {one:ByteArray->Int×Rsn}{l:List ByteArray}(a: ∀nm∈l,(one nm).1=0):pg one l=(0,l.map λnm=>(one nm).2):=by
 have e:l.find? (λnm=>(one nm).1 != 0)=none:=List.find?_eq_none.2 λy b=>by simp[a y b]
 rw[pg,e]
theorem BG {α:Type}(p:α->Bool): ∀(l:List α) (k:Nat),(l.find? p=none/\iT p k l= -1)\/ ∃i x,i<l.length/\iT p k l=((k+i:Nat):Int)/\l.drop i=x::l.drop (i+1)/\l.find? p=some x
 | [],k=>.inl ⟨rfl,rfl⟩
 |x::l,k=>by
  by_cases h:p x=true
  ·exact .inr ⟨0,x,by simp,by rw[iT,if_pos h];rfl,rfl,by rw[List.find?_cons_of_pos h]⟩
  ·rw[iT,if_neg h,List.find?_cons_of_neg (by simpa using h)];rcases BG p l (k+1) with a|⟨i,y,a,b,c,d⟩
   ·exact .inl a
   ·exact .inr ⟨i+1,y,by simp;omega,by rw[b];congr 1;omega,by simpa using c,d⟩
theorem MH (w:World)(x:Chk)(A:Option Addr)(n c:Nat)(A':Option Addr)(n' c':Nat)(A'':Option Addr)(n'' c'':Nat)(name:ByteArray)(h:Nat)(a:w.cell? ⟨h,0,none⟩=some (.string name)):
  Calls Tryz.prog 51 #[.agg (fZ x A n c A' n' c' A'' n'' c'').toArray,.pointer (some ⟨h,0,none⟩)] w λe w'=>e=.returned (.bool (Gh name x))/\Below w.heap.size w w':=by
 have d:=Hm (show Gh name x=(x.name.toList==name.toList) from rfl);obtain⟨R,i⟩: ∃R,Gh name x=R:=⟨_,rfl⟩;rw[i]at d⊢;clear i;simp only[fZ];have f:=lt_of_cell a;go_enter Tryz.func51,Tryz.ntmps51;have f:=lt_of_cell a;go_upto_region 1 with (fail);obtain⟨W1,b⟩: ∃W,W=w.alloc (.cells #[.string x.name,.string x.table,.int .i64 x.kind,.slice A n c,.string x.other,.slice A' n' c',.int .i64 x.low,.int .i64 x.high,.slice A'' n'' c'',.int .i64 x.ln,.int .i64 x.ld,.int .i64 x.mn,.int .i64 x.md,.int .i64 x.policy] 48):=⟨_,rfl⟩;obtain⟨j,q,l,v,y,z,g4,B,C,D,E,F,r,s,t,u⟩:=iE b rfl;rw[<-b];clear b;have m:=qM a;have g:=Hm j;clear j;have p:=lt_of_cell l;have k:=Hm g.o;obtain⟨f,a⟩:=m.o _ g.o;go_wp2;all_goals(try(exfalso;go_light;simp_all;done));go_ret;exact⟨by rw[d.o];rfl,k.o⟩
theorem Av (w:World)(A:Option Addr)(n c:Nat)(xs:List Chk)(j:In w A n c xs)(name:ByteArray)(f:Nat)(g:w.cell? ⟨f,0,none⟩=some (.string name)):
  Calls Tryz.prog 50 #[.slice A n c,.func (.func 51) #[] #[.pointer (some ⟨f,0,none⟩)]] w
   λe w'=>e=.returned (.int .i64 (iT (Gh name) 0 xs))/\Below w.heap.size w w':=by
 have Z:=j.le;have m:=lt_of_cell g;obtain⟨P,h⟩: ∃P,Gh name=P:=⟨_,rfl⟩;have a:=Hm λW (hb:Below w.heap.size w W) x A n c A' n' c' A'' n'' c''=>MH W x A n c A' n' c' A'' n'' c'' name f (fO hb m g);rw[h]at a;rw[h];simp only[fZ]at a;clear h m g;go_enter Tryz.func50,Tryz.ntmps50;go_wp2;go_loopw [8] (λi wr=> ∃k:Nat,k<=n/\i=.int .i64 k/\iT P 0 xs=iT P k (xs.drop k)/\Below w.heap.size w wr) (λi _=>n-(intOf i).toNat)
 case atStart=>exact⟨0,Nat.zero_le _,rfl,rfl,Below.refl _ _⟩
 case round=>
  obtain⟨k,hk,rfl,r,hb⟩:=hrel;have d:=Hm r;clear r;by_cases Q:k<n
  ·obtain⟨b,off,x,rfl,hB,l,t,V,y,u,X,z,v,Y,B,⟨C,f1,H,I,J,K,L,M,N,O,D,E,F,G⟩,S,T,U,R⟩:=(j.below hb).chk Q;clear S T U R;go_wp2_with fail;refine(a.o _ hb x t V y u X z v Y B).mono ?_;rintro e w1 ⟨rfl,p⟩;have q:=fH hb p;clear p C f1 H I J K L M N O D E F G;cases s:P x
   ·go_wp2;all_goals(try(exfalso;go_light;simp_all;done));go_roundw
    case rel=>exact⟨k+1,by omega,by go_num,by rw[d.o,l.o,iT,if_neg (by simp[s])],q⟩
    case measure=>simp[intOf];omega
   ·go_wp2;all_goals(try(exfalso;go_light;simp_all;done));go_ret;exact⟨fV (by rw[d.o,l.o,iT,if_pos s]),q⟩
  ·go_wp2;go_ret;exact⟨fV (by rw[d.o,gG j.len (by omega),iT]),hb⟩
theorem EI {α:Type}[Rep α]{e:TypeId}{B:Nat}{T:List TypeId}{w:World}{v:Value}{xs:List α}{g:Nat}(c:iF w 78 g)(d:OL e B (λ_=>False) T w v xs)(b:78≠e)(a:78∉T){f i j:Value}:OL e B (λ_=>False) T (((w.setCell ⟨g,0,none⟩ f).setCell ⟨g,1,none⟩ i).setCell ⟨g,2,none⟩ j) v xs:=
 (((d.setBlk c (.inr λ_ h=>h) b a _ _).setBlk (c.set _ _ _) (.inr λ_ h=>h) b a _ _).setBlk ((c.set _ _ _).set _ _ _) (.inr λ_ h=>h) b a _ _)
def q9:Nat->List Nat
 | 2=>[0,1]
 | 3=>[2]
 | 8=>[7]
 | 9=>[3,4,5,6,8]
 | 10=>[9]
 | 11=>[10]
 | 12=>[10]
 | 14=>[13,11,9]
 | 15=>[12]
 | _=>[]
def wE:Nat->Nat
 | 14=>13
 |j=>j
def Fv:Nat->List Nat
 | 13=>[14]
 | _=>[]
def yI (j k D y i c0 L A c1 B w n3 c3 F z C x G I p2 J p3 K n2 c2 nl cl n4 c4 h:Nat)(H on:ByteArray)(X:Chk)(l n A3 q p r s t A2 o m:Option Addr)(E:Int×Rsn):Nat->Value->Value->World->Prop
 | 0,v,u,V=>v=.slice (some ⟨j,k,none⟩) D y
 | 1,v,u,V=>v=.int .i64 (i:Int)
 | 2,v,u,V=>v=.pointer (some ⟨j,k+i*14,none⟩)
 | 3,v,u,V=>v=.agg #[.string X.name,.string X.table,.int .i64 X.kind,.slice r G I,.string X.other,.slice s p2 J,.int .i64 X.low,.int .i64 X.high,.slice t p3 K,.int .i64 X.ln,.int .i64 X.ld,.int .i64 X.mn,.int .i64 X.md,.int .i64 X.policy]
 | 4,v,u,V=>v=.agg #[.string H,.slice l A c1,.slice n B w,.slice A3 n3 c3]
 | 5,v,u,V=>v=.agg #[.string on,.slice A2 n2 c2,.slice o nl cl,.slice m n4 c4]
 | 6,v,u,V=>v=.slice q F z
 | 7,v,u,V=>v=.pointer (some ⟨c0+1,1,none⟩)
 | 8,v,u,V=>v=.slice p C x
 | 9,v,u,V=> ∃a e c b f d,v=.tuple #[.agg #[.string E.2.name,.slice a e c,.slice b f d],.int .i64 E.1]/\OL 36 h (λ_=>False) [] V (.slice a e c) E.2.values/\OL (α:=List Val) 23 h (λ_=>False) [36] V (.slice b f d) E.2.rows
 | 10,v,u,V=> ∃a e c b f d,v=.tuple #[.agg #[.string E.2.name,.slice a e c,.slice b f d],.int .i64 E.1]/\OL 36 h (λ_=>False) [] V (.slice a e c) E.2.values/\OL (α:=List Val) 23 h (λ_=>False) [36] V (.slice b f d) E.2.rows
 | 11,v,u,V=> ∃a e c b f d,v=.agg #[.string E.2.name,.slice a e c,.slice b f d]/\OL 36 h (λ_=>False) [] V (.slice a e c) E.2.values/\OL (α:=List Val) 23 h (λ_=>False) [36] V (.slice b f d) E.2.rows
 | 12,v,u,V=>v=.int .i64 E.1
 | 13,v,u,V=> ∃g,v=.pointer (some ⟨g,0,none⟩)/\h<=g/\jo V g 78 [.string ⟨#[]⟩,.slice none 0 0,.slice none 0 0]
 | 14,v,u,V=> ∃g a e c b f d,u=.pointer (some ⟨g,0,none⟩)/\h<=g/\jo V g 78 [.string E.2.name,.slice a e c,.slice b f d]/\OL 36 h (λ_=>False) [] V (.slice a e c) E.2.values/\OL (α:=List Val) 23 h (λ_=>False) [36] V (.slice b f d) E.2.rows
 | 15,v,u,V=>v=.int .i64 E.1
 | _,_,_,_=>True
theorem F7: ∀j,wE j=j\/wE j∈q9 j:=λj=>by
 match j with
 | 14=>exact .inr (by simp[wE,q9])
 |j=>first|exact .inl rfl|(unfold wE;split<;>first|exact .inl rfl|exact .inr (by simp[q9]))
theorem Ij (B N L F i c0 H I c1 J C n3 c3 M G K D O R p2 S p3 T n2 c2 nl cl n4 c4 Q:Nat)(P on:ByteArray)(X:Chk)(p s A3 x w y z A A2 t r:Option Addr)(E:Int×Rsn): ∀j v u V o,(λV o=>Below V.heap.size V o) V o->yI B N L F i c0 H I c1 J C n3 c3 M G K D O R p2 S p3 T n2 c2 nl cl n4 c4 Q P on X p s A3 x w y z A A2 t r E j v u V->yI B N L F i c0 H I c1 J C n3 c3 M G K D O R p2 S p3 T n2 c2 nl cl n4 c4 Q P on X p s A3 x w y z A A2 t r E j v u o:=λj v u V o h q=>by
 match j,q with
 | 0,q=>exact q
 | 1,q=>exact q
 | 2,q=>exact q
 | 3,q=>exact q
 | 4,q=>exact q
 | 5,q=>exact q
 | 6,q=>exact q
 | 7,q=>exact q
 | 8,q=>exact q
 | 9,q=>exact(by obtain⟨c,l,f,d,m,k,e,a,b⟩:=q;exact⟨c,l,f,d,m,k,e,a.below h,b.below h⟩)
 | 10,q=>exact(by obtain⟨c,l,f,d,m,k,e,a,b⟩:=q;exact⟨c,l,f,d,m,k,e,a.below h,b.below h⟩)
 | 11,q=>exact(by obtain⟨c,l,f,d,m,k,e,a,b⟩:=q;exact⟨c,l,f,d,m,k,e,a.below h,b.below h⟩)
 | 12,q=>exact q
 | 13,q=>exact(by obtain⟨g,e,a,b⟩:=q;exact⟨g,e,a,b.below h⟩)
 | 14,q=>exact(by obtain⟨g,c,l,f,d,m,k,e,U,a,b,W⟩:=q;exact⟨g,c,l,f,d,m,k,e,U,a.below h,b.below h,W.below h⟩)
 | 15,q=>exact q
 |(n+16),_=>exact trivial
theorem Fj (C O M G i c0 I J c1 K D n3 c3 N H L F P S p2 T p3 U n2 c2 nl cl n4 c4 R:Nat)(Q on:ByteArray)(X:Chk)(r t A3 y x z A B A2 w s:Option Addr)(E:Int×Rsn): ∀j v u V g,iF V 78 g->j≠13->j≠14->yI C O M G i c0 I J c1 K D n3 c3 N H L F P S p2 T p3 U n2 c2 nl cl n4 c4 R Q on X r t A3 y x z A B A2 w s E j v u V-> ∀{W Y Z:Value},yI C O M G i c0 I J c1 K D n3 c3 N H L F P S p2 T p3 U n2 c2 nl cl n4 c4 R Q on X r t A3 y x z A B A2 w s E j v u (((V.setCell ⟨g,0,none⟩ W).setCell ⟨g,1,none⟩ Y).setCell ⟨g,2,none⟩ Z):=λj v u V g c a b q=>by
 intro W Y Z
 match j,q,a,b with
 | 0,q,a,b=>exact q
 | 1,q,a,b=>exact q
 | 2,q,a,b=>exact q
 | 3,q,a,b=>exact q
 | 4,q,a,b=>exact q
 | 5,q,a,b=>exact q
 | 6,q,a,b=>exact q
 | 7,q,a,b=>exact q
 | 8,q,a,b=>exact q
 | 9,q,a,b=>exact by obtain⟨d,o,h,f,p,k,e,l,m⟩:=q;exact⟨d,o,h,f,p,k,e,EI c l (by decide) (by simp),EI c m (by decide) (by decide)⟩
 | 10,q,a,b=>exact by obtain⟨d,o,h,f,p,k,e,l,m⟩:=q;exact⟨d,o,h,f,p,k,e,EI c l (by decide) (by simp),EI c m (by decide) (by decide)⟩
 | 11,q,a,b=>exact by obtain⟨d,o,h,f,p,k,e,l,m⟩:=q;exact⟨d,o,h,f,p,k,e,EI c l (by decide) (by simp),EI c m (by decide) (by decide)⟩
 | 12,q,a,b=>exact q
 | 13,q,a,b=>exact absurd rfl a
 | 14,q,a,b=>exact absurd rfl b
 | 15,q,a,b=>exact q
 |(n+16),_,_,_=>exact trivial
theorem EP (w:World)(r:Rel)(A1:Option Addr)(n1 c1:Nat)(hc:In w A1 n1 c1 r.columns)(Ak:Option Addr)(nk ck:Nat)(A3:Option Addr)(n3 c3:Nat)(hr:In w A3 n3 c3 r.rows)(Ac:Option Addr)(nc cc:Nat)(l:List Chk)(hl:In w Ac nc cc l)(Ao:Option Addr)(no co:Nat)(F:List Rel)(ho:In w Ao no co F)(Az:Option Addr)(nz cz:Nat)(zs:List Zone)(hz:In w Az nz cz zs)(hw:Words w)(q:Quar)(Aq:Option Addr)(nq cq:Nat)(hq:In w Aq nq cq q.row)(An:Option Addr)(O cn:Nat)(hn:In w An O cn q.checks)(aN:n1<=4096)(bX:nc<=4096)(bY: ∀c∈l,c.cols.length<=4096/\c.ocols.length<=4096/\c.cond.length<=4096)(bZ: ∀o∈F,o.columns.length<=4096)(dO:O<=4096):
  Calls Tryz.prog 25 #[.agg #[.string r.name,.slice A1 n1 c1,.slice Ak nk ck,.slice A3 n3 c3],.slice Ac nc cc,.slice Ao no co,.slice Az nz cz,.agg #[.string q.relation,.slice Aq nq cq,.int .i64 q.count,.slice An O cn]] w
   λe w'=>(∃v,e=.returned (.tuple #[v,.int .i64 (pg (tC (kr l r.name) F r.columns r.rows zs q.row) q.checks).1])/\OL 78 w.heap.size (λ_=>False) [36,23] w' v (pg (tC (kr l r.name) F r.columns r.rows zs q.row) q.checks).2)/\Below w.heap.size w w':=by
 have bE:=Hm λW h=>ui W Ac nc cc l h r.name bX;have bA:Hl (∀c∈kr l r.name,c.cols.length<=4096/\c.ocols.length<=4096/\c.cond.length<=4096):=Hm (λc hc=>bY c (List.mem_filter.1 hc).1);have cM:Hl (∀c,(gI c F).2.columns.length<=4096):=Hm (λc=>by
  rw[gI]
  split
  ·exact Nat.zero_le _
  ·cases h:F.find? (zN c.other) with
   |none=>exact Nat.zero_le _
   |some o=>exact bZ o (List.mem_of_find?_eq_some h))
 obtain⟨own,cm⟩: ∃o,kr l r.name=o:=⟨_,rfl⟩;have bC:=Hm (λnm=>Cc (own:=own) (others:=F) (rc:=r.columns) (rr:=r.rows) (zs:=zs) (row:=q.row) (nm:=nm));have bD:=Hm (λnm c=>xB (own:=own) (others:=F) (rc:=r.columns) (rr:=r.rows) (zs:=zs) (row:=q.row) (nm:=nm) (c:=c));rw[cm]at bE bA⊢;obtain⟨G,aZ⟩: ∃f,tC own F r.columns r.rows zs q.row=f:=⟨_,rfl⟩;simp only[aZ]at bC bD;rw[aZ];clear cm aZ bX bY bZ;have cH:=Hm hn.len;have dN:=hn.le;go_enter Tryz.func25,Tryz.ntmps25;have HC:=Hm hc;clear hc;have HR:=Hm hr;clear hr;have HL:=Hm hl;clear hl;have HO:=Hm ho;clear ho;have HZ:=Hm hz;clear hz;have HW:=Hm hw;clear hw;have HQ:=Hm hq;clear hq;have HN:=Hm hn;clear hn;go_upto_region 1 with (fail);obtain⟨W1,a7⟩: ∃W,W=w.alloc (.cells #[.string r.name,.slice A1 n1 c1,.slice Ak nk ck,.slice A3 n3 c3] 29):=⟨_,rfl⟩;obtain⟨b2,cZ,r0,r1,r2,r3⟩:=jV a7 rfl;rw[<-a7];clear a7;have aW:=Hm b2;clear b2;have L1:=lt_of_cell r0;obtain⟨W2,ba⟩: ∃W,W=W1.alloc (.cells #[.string q.relation,.slice Aq nq cq,.int .i64 q.count,.slice An O cn] 57):=⟨_,rfl⟩;obtain⟨b4,dL,q0,q1,q2,q3⟩:=jV (b:=w.heap.size+1) ba (by rw[cZ.o]);rw[<-ba];clear ba;have o4:=kJ r0 r1 r2 r3;have aM:=Hm b4;clear b4;have L2:=lt_of_cell q0;obtain⟨L1,r0,r1,r2,r3⟩:=o4.o _ aM.o;go_wp2_with fail;have cC:=Hm (fH aW.o aM.o);refine(bE.o _ (HL.o.below cC.o)).mono ?_;rintro e w6 ⟨⟨ov,rfl,cj⟩,b0⟩;have o8:=rE (kJ r0 r1 r2 r3) (kJ q0 q1 q2 q3);have aX:=Hm b0;clear b0;obtain⟨Aw,cw,rfl,bg⟩:=sG cj;obtain⟨nw,cg⟩: ∃n,own.length=n:=⟨_,rfl⟩;rw[cg]at bg⊢;clear cj cg;have cO:=Hm bg;clear bg;obtain⟨WA,rfl⟩: ∃W,W=w6:=⟨_,rfl⟩;have aa:=Hm (fH (fH aW.o aM.o) aX.o);obtain⟨⟨L1,r0,r1,r2,r3⟩,L2,q0,q1,q2,q3⟩:=o8.o _ aX.o;have bI:=Hm r0;have bJ:=Hm r1;have bK:=Hm r2;have bL:=Hm r3;have cP:=Hm q0;have bG:=Hm q1;have cQ:=Hm q2;have bH:=Hm q3;have ak:=Hm L1;have br:=Hm L2;have ac:=Hm (fH (fH aW.o aM.o) aX.o);have cG:=Hm (HC.o.below ac.o);have cT:=Hm (HR.o.below ac.o);have cN:=Hm (HO.o.below ac.o);have cW:=Hm (HZ.o.below ac.o);have cU:=Hm (HW.o.below ac.o);have cR:=Hm (HQ.o.below ac.o);have cJ:=Hm (HN.o.below ac.o);have aT:=Hm cO.o;obtain⟨c0,bd⟩: ∃c,c=w.heap.size:=⟨_,rfl⟩;have dE:=Hm bd;rw[<-bd]at bI bJ bK bL cP bG cQ bH ak br⊢;clear bd;have y3:=bH.o;have bt:Hl (OL (α:=Rsn) 78 WA.heap.size (λ_=>False) [36,23] WA (.slice none 0 0) []):=Hm (OL.nil (Nat.le_refl _));go_wp2;go_loopg [13,27] O (λleft s i wr=> ∃(k:Nat) (K:Option Addr) (N M:Nat),k+left=O/\i=.int .i64 k/\s=.slice K N M/\(∀nm∈q.checks.take k,(G nm).1=0)/\OL (α:=Rsn) 78 WA.heap.size (λ_=>False) [36,23] wr (.slice K N M) ((q.checks.take k).map λnm=>(G nm).2)/\Below WA.heap.size WA wr)
 case atStart=>exact⟨0,none,0,0,by omega,rfl,rfl,by simp,by simpa using bt.o,Below.refl _ _⟩
 case round=>
  obtain⟨k,K,N,M,hk,rfl,rfl,cv,ci,hb⟩:=hrel;have an:=Hm cv;have aS:=Hm ci;have ad:=Hm hb;clear cv ci hb bt y3;by_cases b9:k<O
  ·obtain⟨bn,bh,nm,rfl,bS,HX,f0,cf⟩:=cJ.o.str b9;have dH:=Hm cf;have j0:(0:Int)<=(k:Int):=by omega
   have j1:(k:Int)<(O:Int):=by omega
   have y0:=fO ad.o bS f0;clear f0 bS cf;go_upto_region 6 with (fail);clear y0;obtain⟨dM,a8⟩: ∃W,W=wr.alloc (.cells #[.string nm] 9):=⟨_,rfl⟩;obtain⟨b3,dJ,x0⟩:=mY a8 rfl;rw[<-a8];clear a8;have ae:=Hm b3;clear b3;have ao:=lt_of_cell x0;have dI:=Hm x0;go_wp2_with fail;refine(Av _ Aw nw cw own (aT.o.below (fH ad.o ae.o)) nm wr.heap.size x0).mono ?_;rintro e dT ⟨rfl,bW⟩;have aH:=qM x0;have af:=Hm bW;clear bW;rcases BG (Gh nm) own 0 with ⟨hf,hi⟩|⟨i,X,hi,hf,hd,be⟩
   ·have P:Hl (pg G q.checks=(5,[])):=Hm (by
     have T:G nm=(5,jT):=bC.o nm hf;rw[rH an.o HX.o (by rw[T];simp),T])
    rw[hi];clear hf hi;have bk:=Hm (fH (fH ad.o ae.o) af.o);obtain⟨ao,x0⟩:=aH.o _ af.o;go_wp2;all_goals(try(exfalso;go_light;simp_all;done));go_ret2;exact⟨⟨_,by rw[P.o];rfl,by rw[P.o];exact OL.nil (Nat.le_trans aa.o.size bk.o.size)⟩,fH aa.o bk.o⟩
   ·rw[hf,Nat.zero_add];have aJ:Hl (G nm=if (gI X F).1≠0 then((gI X F).1,jT) else ql X r.columns (gI X F).2.columns r.rows (gI X F).2.rows zs q.row):=Hm (bD.o nm X be);have aV:=Hm (bA.o X (List.mem_of_find?_eq_some be));have dc:i<nw:=by rw[<-aT.o.len];exact hi
    obtain⟨bw,ow,A,rfl,b6,bM,B1,p1,s1,B2,p2,s2,B3,p3,s3,b7,cx,cy,cA,ch⟩:=aT.o.chk dc;obtain rfl:A=X:=by have T:=bM.o;rw[hd]at T;injection T with T;exact T.symm
    have i0:(0:Int)<=(i:Int):=by omega
    have i1:(i:Int)<(nw:Int):=by omega
    have i2:¬(i:Int)<0:=by omega
    have CS:=Hm b7;have y:=Hm b6;have bN:=Hm cx;have bO:=Hm cy;have bP:=Hm cA;have dC:=Hm ch;clear hf hd be hi b7 b6 cx cy cA ch bM;obtain⟨z0,z1,z2,z3,z4,z5,z6,z7,z8,z9,ag,ah,ai,aj⟩:=CS.o;have H:=Hm (fH (fH ad.o ae.o) af.o);have z0:=fO H.o y.o z0;have z1:=fO H.o y.o z1;have z2:=fO H.o y.o z2;have z3:=fO H.o y.o z3;have z4:=fO H.o y.o z4;have z5:=fO H.o y.o z5;have z6:=fO H.o y.o z6;have z7:=fO H.o y.o z7;have z8:=fO H.o y.o z8;have z9:=fO H.o y.o z9;have ag:=fO H.o y.o ag;have ah:=fO H.o y.o ah;have ai:=fO H.o y.o ai;have aj:=fO H.o y.o aj;have aK:=Hm λW h=>xW W A B1 p1 s1 B2 p2 s2 B3 p3 s3 Ao no co F h;simp only[fZ]at aK;obtain⟨E1,Z⟩: ∃e,(gI A F).1=e:=⟨_,rfl⟩;obtain⟨OT,a0⟩: ∃e,(gI A F).2=e:=⟨_,rfl⟩;have bF:=Hm (cM.o A);rw[Z,a0]at aJ aK;rw[a0]at bF;clear Z a0;obtain⟨ao,x0⟩:=aH.o _ af.o;go_wp2_with fail;refine(aK.o _ (cN.o.below (fH (fH ad.o ae.o) af.o))).mono ?_;rintro e aO ⟨⟨on,A2,n2,c2,Al,nl,cl,A4,n4,c4,rfl,h2,h4⟩,bb⟩;have cY:=Hm bb;have bR:=Hm (fH af.o bb);clear bb;have bo:=Hm h2;have bp:=Hm h4;clear h2 h4 z0 z1 z2 z3 z4 z5 z6 z7 z8 z9 ag ah ai aj aK H;have dD:=Hm cY.o;obtain⟨ao,x0⟩:=aH.o _ bR.o;go_upto_region 10 with (fail);obtain⟨c5,a9⟩: ∃W,W=aO.alloc (.cells #[.string on,.slice A2 n2 c2,.slice Al nl cl,.slice A4 n4 c4] 29):=⟨_,rfl⟩;obtain⟨bc,dK,o0,o1,o2,o3⟩:=jV a9 rfl;rw[<-a9];clear a9;have bQ:=Hm bc;have aL:=Hm (fH bR.o bc);clear bc;have cX:=lt_of_cell o0;have aQ:=Hm (bo.o.below bQ.o);have bq:=Hm (bp.o.below bQ.o);have d:=Hm (fH (fH ad.o ae.o) aL.o);have bl:=Hm (fH ae.o aL.o);have bu:=Hm o0;have bv:=Hm o1;have bx:=Hm o2;have bz:=Hm o3;have al:=Hm cX;clear bo bp;by_cases hE:E1=0;rotate_left
    ·have e1:(E1 != 0)=true:=by simpa using hE
     have P:Hl (pg G q.checks=(E1,[])):=Hm (by
      have T:G nm=(E1,jT):=by rw[aJ.o,if_pos hE]
      rw[rH an.o HX.o (by rw[T];exact hE),T])
     clear hE;obtain⟨ao,x0⟩:=aH.o _ aL.o;go_wp2;all_goals(try(exfalso;go_light;simp_all;done));go_ret2;exact⟨⟨_,by rw[P.o];rfl,by rw[P.o];exact OL.nil (Nat.le_trans aa.o.size d.o.size)⟩,fH aa.o d.o⟩
    subst hE;have am:Hl (G nm=ql A r.columns OT.columns r.rows OT.rows zs q.row):=Hm (by rw[aJ.o,if_neg (by simp)]);clear aJ;obtain⟨S,bV⟩: ∃W,W=c5:=⟨_,rfl⟩;rw[<-bV]at aQ bq d bl bu bv bx bz al⊢;clear bV;have cL:=Hm (aS.o.below bl.o);have cp:p1<=4096:=by rw[<-bN.o.len];exact aV.o.1
    have cr:p2<=4096:=by rw[<-bO.o.len];exact aV.o.2.1
    have cs:p3<=4096:=by rw[<-bP.o.len];exact aV.o.2.2
    have ce:n2<=4096:=by rw[<-aQ.o.len];exact bF.o
    have bm:=Hm λW (hb:Below S.heap.size S W)=>Eb W A B1 p1 s1 (bN.o.below (fH d.o hb)) B2 p2 s2 (bO.o.below (fH d.o hb)) B3 p3 s3 (bP.o.below (fH d.o hb)) (cU.o.below (fH d.o hb)) r.name A1 n1 c1 r.columns (cG.o.below (fH d.o hb)) Ak nk ck A3 n3 c3 r.rows (cT.o.below (fH d.o hb)) on A2 n2 c2 OT.columns (aQ.o.below hb) Al nl cl A4 n4 c4 OT.rows (bq.o.below hb) Az nz cz zs (cW.o.below (fH d.o hb)) cp cr aN ce Aq nq cq q.row (cR.o.below (fH d.o hb)) cs;obtain⟨B,aY⟩: ∃e,ql A r.columns OT.columns r.rows OT.rows zs q.row=e:=⟨_,rfl⟩;rw[aY]at am;simp only[aY,fZ]at bm;clear aY cp cr cs ce;obtain⟨ao,x0⟩:=aH.o _ aL.o;go_upto_region 12 with (fail);refine iW (by kernel_rfl) q9 (by kernel_rfl) (λV V'=>Below V.heap.size V V') (λvs=>⟨#[.agg #[.string r.name,.slice A1 n1 c1,.slice Ak nk ck,.slice A3 n3 c3],.slice Ac nc cc,.slice Ao no co,.slice Az nz cz,.agg #[.string q.relation,.slice Aq nq cq,.int .i64 q.count,.slice (some ⟨bn,bh,none⟩) O cn],.pointer (some ⟨c0,0,none⟩),undef,undef,undef,.pointer (some ⟨c0+1,0,none⟩),u10,u11,.slice (some ⟨bw,ow,none⟩) nw cw,.slice K N M,undef,.pointer (some ⟨wr.heap.size,0,none⟩),.int .i64 ↑i,.pointer (some ⟨aO.heap.size,0,none⟩),(vs.getD 15 (.bool false)),(vs.getD 13 (.bool false)),.slice Ac nc cc,.pointer (some ⟨c0,0,none⟩),.string r.name,.slice (some ⟨bw,ow,none⟩) nw cw,.pointer (some ⟨c0+1,3,none⟩),.slice (some ⟨bn,bh,none⟩) O cn,.int .i64 ↑O,.int .i64 ↑k,.bool true,.pointer (some ⟨bn,bh+k,none⟩),.string nm,.slice (some ⟨bw,ow,none⟩) nw cw,.func (Fn.func 51) #[] #[.pointer (some ⟨wr.heap.size,0,none⟩)],.int .i64 ↑i,.int .i64 ↑i,.bool (decide (↑i<0)),.tuple #[.agg #[.string on,.slice A2 n2 c2,.slice Al nl cl,.slice A4 n4 c4],.int .i64 0],.slice (some ⟨bw,ow,none⟩) nw cw,.int .i64 ↑i,.pointer (some ⟨bw,ow+i*14,none⟩),.agg #[.string A.name,.string A.table,.int .i64 A.kind,.slice B1 p1 s1,.string A.other,.slice B2 p2 s2,.int .i64 A.low,.int .i64 A.high,.slice B3 p3 s3,.int .i64 A.ln,.int .i64 A.ld,.int .i64 A.mn,.int .i64 A.md,.int .i64 A.policy],.slice Ao no co,.tuple #[.agg #[.string on,.slice A2 n2 c2,.slice Al nl cl,.slice A4 n4 c4],.int .i64 0],.agg #[.string on,.slice A2 n2 c2,.slice Al nl cl,.slice A4 n4 c4],.int .i64 0,.int .i64 0,.bool false,u47,(vs.getD 10 (.bool false)),(vs.getD 0 (.bool false)),(vs.getD 1 (.bool false)),(vs.getD 2 (.bool false)),(vs.getD 3 (.bool false)),(vs.getD 4 (.bool false)),(vs.getD 5 (.bool false)),(vs.getD 6 (.bool false)),(vs.getD 7 (.bool false)),(vs.getD 8 (.bool false)),(vs.getD 9 (.bool false)),(vs.getD 11 (.bool false)),(vs.getD 12 (.bool false)),u61,u62,u63,u64,u65,u66,u67,u68,undef],[]⟩) 16 (by decide) (λL V=>Below S.heap.size S V) wE Fv (yI bw ow nw cw i c0 aO.heap.size n1 c1 nk ck n3 c3 nz cz nq cq p1 s1 p2 s2 p3 s3 n2 c2 nl cl n4 c4 S.heap.size r.name on A A1 Ak A3 Az Aq B1 B2 B3 A2 Al A4 B) (λ_ _=>True) F7 (Ij bw ow nw cw i c0 aO.heap.size n1 c1 nk ck n3 c3 nz cz nq cq p1 s1 p2 s2 p3 s3 n2 c2 nl cl n4 c4 S.heap.size r.name on A A1 Ak A3 Az Aq B1 B2 B3 A2 Al A4 B) [_,_,_,_,_,_,_,_,_,_,_,_,_,_,.bool false,_] rfl rfl (λ_=>trivial) ((Below.refl _ _).drew) ?_ ?_
    ·intro L i vs V hi aG hL hd hG hF bT;obtain⟨v0,dl,rfl,ap⟩:=fJ aG;obtain⟨v1,dm,rfl,aq⟩:=fJ ap;obtain⟨v2,du,rfl,az⟩:=fJ aq;obtain⟨v3,dv,rfl,aA⟩:=fJ az;obtain⟨v4,dw,rfl,aB⟩:=fJ aA;obtain⟨v5,dx,rfl,aC⟩:=fJ aB;obtain⟨v6,dy,rfl,aD⟩:=fJ aC;obtain⟨v7,dz,rfl,aE⟩:=fJ aD;obtain⟨v8,dA,rfl,aF⟩:=fJ aE;obtain⟨v9,dB,rfl,ab⟩:=fJ aF;obtain⟨dh,dn,rfl,ar⟩:=fJ ab;obtain⟨di,dp,rfl,au⟩:=fJ ar;obtain⟨dj,dq,rfl,av⟩:=fJ au;obtain⟨bi,dr,rfl,aw⟩:=fJ av;obtain⟨dk,ds,rfl,ax⟩:=fJ aw;obtain⟨cB,dt,rfl,ay⟩:=fJ ax;obtain rfl:=jR ay;clear aG ap aq az aA aB aC aD aE aF ab ar au av aw ax ay;have hi:i<16:=hi;have a:=Hm hG;have C:=Hm hF;have I:=Hm hd;have cI:=Hm hL;have dG:=Hm bT;clear hG hF hd hL bT;obtain rfl|rfl|rfl|rfl|rfl|rfl|rfl|rfl|rfl|rfl|rfl|rfl|rfl|rfl|rfl|rfl:i=0\/i=1\/i=2\/i=3\/i=4\/i=5\/i=6\/i=7\/i=8\/i=9\/i=10\/i=11\/i=12\/i=13\/i=14\/i=15:=by omega
     ·refine fK rfl λJ p=>?_;go_simp;exact p.o _ _ ⟨_,rfl,rfl,a.o,.inl (Below.refl _ _)⟩
     ·refine fK rfl λJ p=>?_;go_simp;exact p.o _ _ ⟨_,rfl,rfl,a.o,.inl (Below.refl _ _)⟩
     ·obtain rfl:=fT C I 0 rfl rfl;obtain rfl:=fT C I 1 rfl rfl;refine fK rfl λJ p=>?_;go_simp;exact p.o _ _ ⟨_,rfl,rfl,a.o,.inl (Below.refl _ _)⟩
     ·obtain rfl:=fT C I 2 rfl rfl;obtain⟨z0,z1,z2,z3,z4,z5,z6,z7,z8,z9,ag,ah,ai,aj⟩:=CS.o;have z0:=fO (fH d.o a.o) y.o z0;have z1:=fO (fH d.o a.o) y.o z1;have z2:=fO (fH d.o a.o) y.o z2;have z3:=fO (fH d.o a.o) y.o z3;have z4:=fO (fH d.o a.o) y.o z4;have z5:=fO (fH d.o a.o) y.o z5;have z6:=fO (fH d.o a.o) y.o z6;have z7:=fO (fH d.o a.o) y.o z7;have z8:=fO (fH d.o a.o) y.o z8;have z9:=fO (fH d.o a.o) y.o z9;have ag:=fO (fH d.o a.o) y.o ag;have ah:=fO (fH d.o a.o) y.o ah;have ai:=fO (fH d.o a.o) y.o ai;have aj:=fO (fH d.o a.o) y.o aj;refine fK rfl λJ p=>?_;go_simp;exact p.o _ _ ⟨_,rfl,rfl,a.o,.inl (Below.refl _ _)⟩
     ·have y0:=fO (fH d.o a.o) ak.o bI.o;have y1:=fO (fH d.o a.o) ak.o bJ.o;have y2:=fO (fH d.o a.o) ak.o bK.o;have y3:=fO (fH d.o a.o) ak.o bL.o;refine fK rfl λJ p=>?_;go_simp;exact p.o _ _ ⟨_,rfl,rfl,a.o,.inl (Below.refl _ _)⟩
     ·have y0:=fO a.o al.o bu.o;have y1:=fO a.o al.o bv.o;have y2:=fO a.o al.o bx.o;have y3:=fO a.o al.o bz.o;refine fK rfl λJ p=>?_;go_simp;exact p.o _ _ ⟨_,rfl,rfl,a.o,.inl (Below.refl _ _)⟩
     ·refine fK rfl λJ p=>?_;go_simp;exact p.o _ _ ⟨_,rfl,rfl,a.o,.inl (Below.refl _ _)⟩
     ·refine fK rfl λJ p=>?_;go_simp;exact p.o _ _ ⟨_,rfl,rfl,a.o,.inl (Below.refl _ _)⟩
     ·obtain rfl:=fT C I 7 rfl rfl;have y0:=fO (fH d.o a.o) br.o bG.o;refine fK rfl λJ p=>?_;go_simp;exact p.o _ _ ⟨_,rfl,rfl,a.o,.inl (Below.refl _ _)⟩
     ·obtain rfl:=fT C I 3 rfl rfl;obtain rfl:=fT C I 4 rfl rfl;obtain rfl:=fT C I 5 rfl rfl;obtain rfl:=fT C I 6 rfl rfl;obtain rfl:=fT C I 8 rfl rfl;refine fK rfl λJ p=>?_;go_simp;go_at_call 53;refine(bm.o _ a.o).mono ?_;rintro e w1 ⟨⟨v7,v8,rfl,D,E⟩,aN⟩;obtain⟨U,Y,e7⟩:=D.form;obtain⟨K,M,e8⟩:=E.form;obtain⟨m7,ca⟩: ∃m,B.2.values.length=m:=⟨_,rfl⟩;obtain⟨N,cb⟩: ∃m,B.2.rows.length=m:=⟨_,rfl⟩;rw[ca]at e7;rw[cb]at e8;subst e7 e8;have Q:=Hm (D.rebase a.o.size);have R:=Hm (E.rebase a.o.size);have bj:=Hm aN;clear D E aN ca cb;go_wp2_with fail;exact p.o _ _ ⟨_,rfl,⟨_,_,_,_,_,_,rfl,Q.o,R.o⟩,fH a.o bj.o,.inl bj.o⟩
     ·obtain⟨U,m7,Y,K,N,M,rfl,D,E⟩:=fT C I 9 rfl rfl;have Q:=Hm D;have R:=Hm E;clear D E;refine fK rfl λJ p=>?_;go_simp;exact p.o _ _ ⟨_,rfl,⟨_,_,_,_,_,_,rfl,Q.o,R.o⟩,a.o,.inl (Below.refl _ _)⟩
     ·obtain⟨U,m7,Y,K,N,M,rfl,D,E⟩:=fT C I 10 rfl rfl;have Q:=Hm D;have R:=Hm E;clear D E;refine fK rfl λJ p=>?_;go_simp;exact p.o _ _ ⟨_,rfl,⟨_,_,_,_,_,_,rfl,Q.o,R.o⟩,a.o,.inl (Below.refl _ _)⟩
     ·obtain⟨U,m7,Y,K,N,M,rfl,D,E⟩:=fT C I 10 rfl rfl;have Q:=Hm D;have R:=Hm E;clear D E;refine fK rfl λJ p=>?_;go_simp;exact p.o _ _ ⟨_,rfl,rfl,a.o,.inl (Below.refl _ _)⟩
     ·refine fK rfl λJ p=>?_;go_simp;exact p.o _ _ ⟨_,rfl,⟨_,rfl,a.o.size,jo.made _ _ _⟩,fH a.o fI,.inl fI⟩
     ·obtain⟨g,rfl,hg,hb⟩: ∃g,bi=.pointer (some ⟨g,0,none⟩)/\S.heap.size<=g/\jo V g 78 [.string ⟨#[]⟩,.slice none 0 0,.slice none 0 0]:=(C.o 13 (I.o 13 (by simp[q9]))).2 (λu h=>by simp only[Fv,List.mem_cons,List.not_mem_nil,or_false]at h;subst h;exact cI.o);obtain⟨U,m7,Y,K,N,M,rfl,D,E⟩:=fT C I 11 rfl rfl;have Q:=Hm D;have R:=Hm E;clear D E;have cD:=Hm hb;have aU:=Hm hb.ty;obtain⟨b9,k0,k1,k2⟩:=hb.ats3;have f0:=hb.fz 0;have f1:=hb.fz 1;have f2:=hb.fz 2;have aI:=Hm hg;clear hb hg;refine fK rfl λJ p=>?_;go_simp;exact p.o _ _ ⟨.bool false,rfl,⟨g,_,_,_,_,_,_,rfl,aI.o,cD.o.set3 rfl,EI aU.o Q.o (by decide) (by simp),EI aU.o R.o (by decide) (by decide)⟩,kN (kN (kN a.o aI.o _ _) aI.o _ _) aI.o _ _,.inr (λj hj hL hu q=>Fj _ _ _ _ _ _ _ _ _ _ _ _ _ _ _ _ _ _ _ _ _ _ _ _ _ _ _ _ _ _ _ _ _ _ _ _ _ _ _ _ _ _ _ _ _ j _ _ _ _ aU.o (λe=>by subst e;exact(hu 14 (by simp[Fv])).1 rfl) hj q)⟩
     ·obtain rfl:=fT C I 12 rfl rfl;refine fK rfl λJ p=>?_;go_simp;exact p.o _ _ ⟨_,rfl,rfl,a.o,.inl (Below.refl _ _)⟩
    ·intro L vs V hL aG hG hF;obtain⟨v0,dl,rfl,ap⟩:=fJ aG;obtain⟨v1,dm,rfl,aq⟩:=fJ ap;obtain⟨v2,du,rfl,az⟩:=fJ aq;obtain⟨v3,dv,rfl,aA⟩:=fJ az;obtain⟨v4,dw,rfl,aB⟩:=fJ aA;obtain⟨v5,dx,rfl,aC⟩:=fJ aB;obtain⟨v6,dy,rfl,aD⟩:=fJ aC;obtain⟨v7,dz,rfl,aE⟩:=fJ aD;obtain⟨v8,dA,rfl,aF⟩:=fJ aE;obtain⟨v9,dB,rfl,ab⟩:=fJ aF;obtain⟨dh,dn,rfl,ar⟩:=fJ ab;obtain⟨di,dp,rfl,au⟩:=fJ ar;obtain⟨dj,dq,rfl,av⟩:=fJ au;obtain⟨bi,dr,rfl,aw⟩:=fJ av;obtain⟨dk,ds,rfl,ax⟩:=fJ aw;obtain⟨cB,dt,rfl,ay⟩:=fJ ax;obtain rfl:=jR ay;clear aG ap aq az aA aB aC aD aE aF ab ar au av aw ax ay;have a:=Hm hG;have C:=Hm hF;have HL:=Hm hL;clear hG hF hL;obtain⟨gR,U,m7,Y,Ab,dQ,c6,rfl,b8,b5,D,E⟩: ∃g U m7 Y K N M,bi=.pointer (some ⟨g,0,none⟩)/\S.heap.size<=g/\jo V g 78 [.string B.2.name,.slice U m7 Y,.slice K N M]/\OL 36 S.heap.size (λ_=>False) [] V (.slice U m7 Y) B.2.values/\OL (α:=List Val) 23 S.heap.size (λ_=>False) [36] V (.slice K N M) B.2.rows:=C.o 14 (by show 14<16;omega) rfl;obtain rfl:cB=.int .i64 B.1:=C.o 15 (by show 15<16;omega) rfl;have dF:=Hm b8;have cF:=Hm b5;have Q:=Hm (D.rebase d.o.size);have R:=Hm (E.rebase d.o.size);have bB:=Hm (cL.o.below a.o);have aP:=Hm (fH d.o a.o);obtain⟨VX,rfl⟩: ∃W,W=V:=⟨_,rfl⟩;clear b8 b5 D E a C HL;by_cases Z:B.1=0;rotate_left
     ·have e1:(B.1 != 0)=true:=by simpa using Z
      have P:Hl (pg G q.checks=(B.1,[])):=Hm (by rw[rH an.o HX.o (by rw[am.o];exact Z),am.o]);clear Z;go_wp2;all_goals(try(exfalso;go_light;simp_all;done));go_ret2;exact⟨⟨_,by rw[P.o];rfl,by rw[P.o];exact OL.nil (Nat.le_trans aa.o.size aP.o.size)⟩,fH aa.o aP.o⟩
     have e1:(B.1 != 0)=false:=by simpa using Z
     have cV:Hl (∀x∈q.checks.take (k+1),(G x).1=0):=Hm (by
      rw[ic HX.o];intro x hx;rcases List.mem_append.1 hx with h|h
      ·exact an.o x h
      ·rw[List.mem_singleton.1 h,am.o];exact Z)
     have bs:Hl ((q.checks.take (k+1)).map (λx=>(G x).2)=(q.checks.take k).map (λx=>(G x).2)++[B.2]):=Hm (by rw[ic HX.o,List.map_append,<-am.o];rfl);have aR:Hl (((q.checks.take k).map (λx=>(G x).2)).length<=4096):=Hm (by rw[List.length_map,List.length_take];omega);obtain⟨RS,bU⟩: ∃l,(q.checks.take k).map (λx=>(G x).2)=l:=⟨_,rfl⟩;rw[bU]at bs aR bB;clear bU Z;obtain⟨dP,k0,k1,k2⟩:=cF.o.ats3;have dd:RS.length+1<=maxLen:=by have:=aR.o;simp only[maxLen];omega
     have de:(RS.length+1)*64<=140737488355328:=by have:=aR.o;omega
     obtain⟨q7,dR,df,ct⟩:=Q.o.sl;obtain⟨q8,dS,dg,cu⟩:=R.o.sl;injection df with a1 a2 a3;injection dg with a4 a5 a6;subst a1 a2 a3 a4 a5 a6;have cS:Hl (Rep.rd VX (BS WA.heap.size (λ_=>False) [36,23] VX) [.string B.2.name,.slice U B.2.values.length Y,.slice Ab B.2.rows.length c6] B.2):=Hm ⟨_,_,_,_,_,_,rfl,ct.mono λz hz=>hz.more λt ht=>by simp at ht;simp[ht],cu.mono λz hz=>hz.more λt ht=>by simp at ht;rcases ht with rfl|rfl<;>simp⟩;clear ct cu;go_wp2_with (at_builtin;refine gY _ rfl _ _ _ rfl BD (by decide) VX _ rfl bB.o rfl rfl B.2 cS.o dd de ?_;intro v9 w9 bf b1 db da);all_goals(try(exfalso;go_light;simp_all;done));obtain⟨A9,c9,ab⟩:=bf.form;obtain⟨m9,cd⟩: ∃m,(RS++[B.2]).length=m:=⟨_,rfl⟩;rw[cd]at ab;subst ab;have cK:=Hm bf;have cE:=Hm (aP.o.trans b1);clear bf b1 db da cd;go_wp2;all_goals(try(exfalso;go_light;simp_all;done));go_roundg (gk-1)
     case measure=>omega
     case rel=>exact⟨k+1,A9,m9,c9,by omega,by go_num,rfl,cV.o,by rw[bs.o];exact cK.o,cE.o⟩
  ·have HT:Hl (q.checks.take k=q.checks):=Hm (List.take_of_length_le (by rw[cH.o];omega));have P:Hl (pg G q.checks=(0,q.checks.map λnm=>(G nm).2)):=Hm (Dm (by have h:=an.o;rw[HT.o]at h;exact h));rw[HT.o]at aS;have jn:¬(k:Int)<(O:Int):=by omega
   go_wp2;all_goals(try(exfalso;go_light;simp_all;done));go_ret2;exact⟨⟨_,by rw[P.o];rfl,by rw[P.o];exact aS.o.rebase aa.o.size⟩,fH aa.o ad.o⟩
end Go.Proofs.YtopjjlmfilgngaaGreatDoor
