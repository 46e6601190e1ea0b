/-
  quarantine.violators: the names of the checks that each row violates. quarantine.Divide.
-/
import Derived.Test.YtopjjlmfilgngaaGreatDoorGba
import Derived.Test.YtopjjlmfilgngaaGreatDoorGaf
namespace Go.Proofs.YtopjjlmfilgngaaGreatDoor
set_option maxHeartbeats 8000000
set_option maxRecDepth 100000
open Go.RowKit Go.Maps
set_option linter.unusedSimpArgs false
set_option linter.unusedVariables false
theorem mq:Elem Tryz.prog 43 9 1 16:=mU (.string ⟨#[]⟩) Tryz.underlying43 (by kernel_rfl) rfl (by decide)
structure Kp (e b:Nat) (W1 Wi V:World):Prop where
 bel:Below W1.heap.size W1 V
 size:Wi.heap.size<=V.heap.size
 blk: ∀k,k<Wi.heap.size->k≠b->¬iF Wi e k->V.heap[k]?=Wi.heap[k]?
section
variable {e b g o:Nat}{W1 Wi V d:World}
theorem Kp.refl (h:Below W1.heap.size W1 Wi):Kp e b W1 Wi Wi:=⟨h,Nat.le_refl _,λ_ _ _ _=>rfl⟩
theorem Kp.below (h:Kp e b W1 Wi V)(hb:Below V.heap.size V d):Kp e b W1 Wi d:=
 ⟨fH h.bel hb,Nat.le_trans h.size hb.size,λk a c f=>(hb.block k (Nat.lt_of_lt_of_le a h.size)).trans (h.blk k a c f)⟩
theorem Kp.own {row:Option Nat}(h:Kp e b W1 Wi V)(j:V.grownBy d row)(l: ∀k,row=some k->W1.heap.size<=k/\(k=b\/iF V e k)):Kp e b W1 Wi d:=
 ⟨h.bel.grown j h.bel.size λk q=>(l k q).1,Nat.le_trans h.size j.size,λk a f i=>(j.block k (Nat.lt_of_lt_of_le a h.size) λq=>by
  rcases(l k q.symm).2 with q|⟨c,q⟩
  ·exact f q
  ·exact i ⟨c,(h.blk k a f i)▸q⟩).trans (h.blk k a f i)⟩
theorem Kp.cell (h:Kp e b W1 Wi V){v:Value}(c:Wi.cell? ⟨g,o,none⟩=some v)(f:g≠b)(i:¬iF Wi e g):V.cell? ⟨g,o,none⟩=some v:=
 (World.cell?_of_block (a:=⟨g,o,none⟩) (h.blk g (lt_of_cell c) f i)).trans c
theorem Kp.sl {α:Type}[Rep α]{S:Nat->Prop}{A:Option Addr}{n c:Nat}{xs:List α}(h:Kp e b W1 Wi V)(hs:Sl Wi S A n c xs)(f: ∀k,S k->k<Wi.heap.size/\k≠b/\¬iF Wi e k):In V A n c xs:=
 In.of_sl (Sl.keep (λk a=>h.blk k (f k a).1 (f k a).2.1 (f k a).2.2) hs) λk a=>Nat.lt_of_lt_of_le (f k a).1 h.size
end
theorem Sl.ent {w:World}{S:Nat->Prop}{A:Option Addr}{n c k:Nat}{xs:List Ent}(h:Sl w S A n c xs)(f:k<n): ∃b off x,A=some ⟨b,off,none⟩/\S b/\Hl (xs.drop k=x::xs.drop (k+1))/\
  ∃A' n' c',w.cell? ⟨b,off+k*2,none⟩=some (.slice A' n' c')/\w.cell? ⟨b,off+k*2+1,none⟩=some (.int .i64 x.count)/\Sl w S A' n' c' x.row/\jU x.count:=by
 obtain⟨b,off,e,hb,hi⟩:=h.2.2.2.2 (by omega);have d:k<xs.length:=by rw[h.1];exact f
 obtain⟨i,⟨A',n',c',rfl,hs,g⟩,a⟩:=hi k d;exact⟨b,off,xs[k],e,hb,List.drop_eq_getElem_cons d,A',n',c',a 0 (by simp),a 1 (by simp),hs,g⟩
def Cq (P:Program)(K e:TypeId)(B b n:Nat)(f:ByteArray->Value)(F:ByteArray->List ByteArray)(T x:ByteArray)(V:World)(v:Value):Prop:=
 ∃a,NMap P K e B a b n f F/\a.grownBy V (f T).ownBlock/\OL e B (λ_=>False) [] V v (F T++[x])/\(v.ownBlock=(f T).ownBlock\/ ∃k,v.ownBlock=some k/\a.heap.size<=k)
theorem Cq.below {P:Program}{K e:TypeId}{B b n:Nat}{f:ByteArray->Value}{F:ByteArray->List ByteArray}{T x:ByteArray}{V a:World}{v:Value}(h:Cq P K e B b n f F T x V v)(hb:Below V.heap.size V a):Cq P K e B b n f F T x a v:=by
 obtain⟨c,d,g,i,j⟩:=h;exact⟨c,d,g.trans (Below.grows hb _),i.below hb,j⟩
theorem Kp.ty {e b t g:Nat}{W1 Wi V:World}(h:Kp e b W1 Wi V)(a:iF Wi t g)(d:g≠b)(f:¬iF Wi e g):iF V t g:=by
 obtain⟨c,q⟩:=a;exact⟨c,(h.blk g (iF.lt ⟨c,q⟩) d f).trans q⟩
def Ko {α:Type}[Rep α](e b:Nat)(V:World)(A:Option Addr)(n c:Nat)(xs:List α):Prop:=Sl V (λk=>k<V.heap.size/\k≠b/\¬iF V e k) A n c xs
section
variable {α:Type}[Rep α]{e b n c:Nat}{W1 Wi V a:World}{A:Option Addr}{xs:List α}
theorem Ko.inn (h:Ko e b V A n c xs):In V A n c xs:=In.of_sl h λk d=>d.1
theorem Ko.below (h:Ko e b V A n c xs)(hb:Below V.heap.size V a):Ko e b a A n c xs:=
 (Sl.keep (λk d=>hb.block k d.1) h).mono λk d=>⟨Nat.lt_of_lt_of_le d.1 hb.size,d.2.1,λ⟨c,q⟩=>d.2.2 ⟨c,(hb.block k d.1)▸q⟩⟩
theorem Kp.ko {S:Nat->Prop}(h:Kp e b W1 Wi V)(hs:Sl Wi S A n c xs)(f: ∀k,S k->k<Wi.heap.size/\k≠b/\¬iF Wi e k):Ko e b V A n c xs:=
 (Sl.keep (λk d=>h.blk k (f k d).1 (f k d).2.1 (f k d).2.2) hs).mono λk d=>⟨Nat.lt_of_lt_of_le (f k d).1 h.size,(f k d).2.1,λ⟨c,q⟩=>(f k d).2.2 ⟨c,(h.blk k (f k d).1 (f k d).2.1 (f k d).2.2)▸q⟩⟩
theorem Kp.ko2 (h:Kp e b W1 Wi V)(hs:Ko e b Wi A n c xs):Ko e b V A n c xs:=h.ko hs λ_ d=>d
theorem Kp.trans {j:World}(h:Kp e b W1 Wi V)(d:Kp e b W1 V j):Kp e b W1 Wi j:=
 ⟨d.bel,Nat.le_trans h.size d.size,λk f g i=>(d.blk k (Nat.lt_of_lt_of_le f h.size) g λ⟨c,q⟩=>i ⟨c,(h.blk k f g i)▸q⟩).trans (h.blk k f g i)⟩
end
theorem O7 {V:World}{g e:Nat}{v:Value}(h:V.heap[g]?=some (.cells #[v] e (0,0))):Src V 1 (some ⟨g,0,none⟩) 1 [v]:=
 ⟨rfl,λ_=>⟨g,0,rfl,λj u a=>by
  rw[Nat.zero_add,cell_of_row V g j _ e (0,0) h];simpa using a⟩⟩
structure R15 (B b m:Nat) (W1 Wr:World) (f:ByteArray->Value) (F:ByteArray->List ByteArray) (T nm:ByteArray) (gc gy:Nat) (Ay:Option Addr) (ny cy:Nat) (V:World) (v60 v61 v62 v63 v64 v65 v66 v67 v68 v69 v70 v71 v72:Value) (L:Nat->Bool):Prop where
 kp:Kp 9 b W1 Wr V
 f0:L 0=true->v60=.map (some b)
 f1:L 1=true->v61=.pointer (some ⟨gy,0,none⟩)
 f2:L 2=true->v62=.slice Ay ny cy
 f3:L 3=true->v63=.string T
 f4:L 4=true->v64=.map (some b)
 f5:L 5=true->v65=.pointer (some ⟨gy,0,none⟩)
 f6:L 6=true->v66=.slice Ay ny cy
 f7:L 7=true->v67=.string T
 f8:L 8=true->v68=f T
 f9:L 9=true->v69=.pointer (some ⟨gc,0,none⟩)
 f10:L 10=true->v70=.string nm
 f11:L 11=true-> ∃g,v71=.slice (some ⟨g,0,none⟩) 1 1/\(L 12=false->V.heap[g]?=some (.cells #[.string nm] 9 (0,0)))
 s0:L 12=false->NMap Tryz.prog 9 9 B V b m f F
 s1:L 12=true->L 13=false->Cq Tryz.prog 9 9 B b m f F T nm V v72
 s2:L 13=true-> ∃f2,NMap Tryz.prog 9 9 B V b (m+1) f2 (λs=>if s=T then F T++[nm] else F s)
 o8:L 8=true->L 7=true
 o12:L 12=true->L 8=true/\L 11=true
 o13:L 13=true->L 12=true/\L 3=true/\L 7=true
def lJ:Nat->List Nat
 | 2=>[1]
 | 3=>[2]
 | 6=>[5]
 | 7=>[6]
 | 8=>[4,7]
 | 10=>[9]
 | 11=>[10]
 | 12=>[8,11]
 | 13=>[0,3,12]
 | _=>[]
theorem Bj (w:World)(r:Rel)(A1:Option Addr)(n1 c1:Nat)(hc:In w A1 n1 c1 r.columns)(Ak:Option Addr)(nk ck:Nat)(A3:Option Addr)(n3 c3:Nat)(hr:In w A3 n3 c3 r.rows)(Ac:Option Addr)(nc cc:Nat)(l:List Chk)(hl:In w Ac nc cc l)(Ao:Option Addr)(no co:Nat)(v:List Rel)(ho:In w Ao no co v)(Aw:Option Addr)(nw cw:Nat)(ws:List Wvr)(av:In w Aw nw cw ws)(Az:Option Addr)(nz cz:Nat)(zs:List Zone)(hz:In w Az nz cz zs)(hw:Words w)(az:n1<=4096)(dL:nc<=4096)(bU: ∀c∈l,c.cols.length<=4096/\c.ocols.length<=4096)(bV: ∀o∈v,o.columns.length<=4096):
  Calls Tryz.prog 33 #[.agg #[.string r.name,.slice A1 n1 c1,.slice Ak nk ck,.slice A3 n3 c3],.slice Ac nc cc,.slice Ao no co,.slice Aw nw cw,.slice Az nz cz] w
   λe w'=>(∃m,e=.returned (.tuple #[m,.int .i64 (sV r v zs l)])/\(sV r v zs l=0-> ∃b n f,m=.map (some b)/\NMap Tryz.prog 9 9 w.heap.size w' b n f (sW r v ws zs l)))/\Below w.heap.size w w':=by
 have dM:=@run_makeMap Tryz.prog;have dJ:=hl.le;have bA:=Hm hl.len;have cU:Hl (∀c:Chk,(gI c v).2.columns.length<=4096):=Hm (λc=>by
  rw[gI]
  split
  ·simp[ug]
  ·cases hf:v.find? (zN c.other) with
   |none=>simp[ul,ug]
   |some r=>exact bV r (List.mem_of_find?_eq_some hf))
 have cE:=Hm bU;have bD:=Hm λW x A n c A' n' c' A'' n'' c'' hx=>xW W x A n c A' n' c' A'' n'' c'' Ao no co v hx;have bJ:=Hm λW x A n c hn A' n' c' dp A'' n'' c'' hq hw h1 h2 on A2 n2 c2 dv h3 Al nl cl A4 n4 c4 dw h4 h5 e1 e2 e3=>nS W x A n c hn A' n' c' dp A'' n'' c'' hq hw r.name A1 n1 c1 r.columns h1 Ak nk ck A3 n3 c3 r.rows h2 on A2 n2 c2 dv h3 Al nl cl A4 n4 c4 dw h4 Az nz cz zs h5 e1 e2 az e3;obtain⟨E,hE⟩: ∃E,sV r v zs l=E:=⟨_,rfl⟩;have HE:=Hm hE;rw[hE];clear hE bU bV;simp only[fZ]at bD bJ;go_enter Tryz.func33,Tryz.ntmps33;have c7:=Hm av;have HL:=Hm hl;clear hl;have HO:=Hm ho;clear ho;have c5:=Hm av;clear av;have HZ:=Hm hz;clear hz;have HW:=Hm hw;clear hw;have HC:=Hm hc;clear hc;have HR:=Hm hr;clear hr;go_wp2_with fail;obtain⟨W1,a9⟩: ∃W,W=w.alloc (.cells #[.string r.name,.slice A1 n1 c1,.slice Ak nk ck,.slice A3 n3 c3] 29):=⟨_,rfl⟩;obtain⟨bc,df,g0,g1,g2,g3⟩:=jV a9 rfl;rw[<-a9];clear a9;have db:=Hm bc;have ah:=Hm bc;clear bc;have LR:=lt_of_cell g0;have bq:=Hm db.o;have cL:=Hm (NMap.made Tryz.prog 9 9 W1 (B:=W1.heap.size) (Nat.le_refl _));have cD:Hl (Below W1.heap.size W1 (W1.alloc (.map #[] 0))):=Hm fI;have cX:=Hm (show(W1.alloc (.map #[] 0)).heap.size=W1.heap.size+1 from World.size_alloc _ _);rw[<-df.o];go_wp2;go_loopw [23] (λi wr=> ∃(k n:Nat) (f:ByteArray->Value) (F:ByteArray->List ByteArray),k<=nc/\i=.int .i64 k/\NMap Tryz.prog 9 9 W1.heap.size wr W1.heap.size n f F/\n<=k*4096/\(∀s,F s=sW r v ws zs (l.take k) s)/\(∀s,(F s).length<=k*4096)/\E=fQ (λ_=>wQ r v zs) k (l.drop k)/\Below W1.heap.size W1 wr/\W1.heap.size+1<=wr.heap.size) (λi _=>nc-(RowKit.intOf i).toNat)
 case atStart=>exact⟨0,0,_,_,Nat.zero_le _,rfl,cL.o,Nat.zero_le _,(λs=>by simp[sW]),(λs=>by simp),HE.o.symm,cD.o,by rw[cX.o];exact Nat.le_refl _⟩
 case round=>
  obtain⟨k,n,f,F,hk,rfl,ca,hn,hF,bN,b2,hb,ci⟩:=hrel;have bt:=Hm hF;have bu:=Hm bN;have bs:=Hm b2;have bH:=Hm ci;clear hF bN b2 ci;have o2:=kJ g0 g1 g2 g3;have Z:=Hm hb;clear hb;have bC:=Hm ca;clear ca;have dF:=Hm Z.o;by_cases dm:k<nc
  ·have cx:=Hm (fH ah.o Z.o);obtain⟨bL,oL,x,rfl,dK,HX,aO,aL,a4,aP,aM,a5,aQ,bp,a6,⟨J,f1,I,N,O,P,Q,R,S,U,K,M,dH,dI⟩,i1,i2,i3,ch⟩:=(HL.o.below cx.o).chk dm;have k0:(0:Int)<=(k:Int):=by omega
   have k1:(k:Int)<(nc:Int):=by omega
   have cT:=Hm ch;clear ch;have I1:=Hm i1;clear i1;have I2:=Hm i2;clear i2;have I3:=Hm i3;clear i3;have aw:Hl (E=if wQ r v zs x≠0 then wQ r v zs x else fQ (λ_=>wQ r v zs) (k+1) (l.drop (k+1))):=Hm (by rw[bs.o,HX.o,fQ]);have aj:Hl (wQ r v zs x=if (gI x v).1≠0 then(gI x v).1 else(rP r v zs x).1):=Hm rfl;obtain⟨V,hV⟩: ∃V,wQ r v zs x=V:=⟨_,rfl⟩;have ds:=gH HX.o;obtain⟨bl,bm⟩:=cE.o x ds;have bl:aL<=4096:=by rw[<-I1.o.len];exact bl
   have bm:aM<=4096:=by rw[<-I2.o.len];exact bm
   rw[hV]at aw aj;clear hV;obtain⟨LR,g0,g1,g2,g3⟩:=o2.o _ Z.o;go_wp2_with fail;obtain⟨W2,aG⟩: ∃W,W=wr.alloc (.cells #[.string x.name,.string x.table,.int .i64 x.kind,.slice aO aL a4,.string x.other,.slice aP aM a5,.int .i64 x.low,.int .i64 x.high,.slice aQ bp a6,.int .i64 x.ln,.int .i64 x.ld,.int .i64 x.mn,.int .i64 x.md,.int .i64 x.policy] 48):=⟨_,rfl⟩;obtain⟨bX,dg,p0,p1,p2,p3,p4,p5,p6,p7,p8,p9,al,am,an,ao⟩:=iE aG rfl;have dd:Hl (iy W2 (wr.heap.size) 48 14):=Hm (by rw[aG];exact iy.made _ _ _ _ rfl);rw[<-aG];clear aG;have ad:=Hm bX;clear bX;have LC:=lt_of_cell p0;have cA:=Hm (fH Z.o ad.o);obtain⟨LR,g0,g1,g2,g3⟩:=o2.o _ cA.o;go_wp2_with fail;have cB:=Hm (fH (fH ah.o Z.o) ad.o);refine(bD.o _ x aO aL a4 aP aM a5 aQ bp a6 (HO.o.below cB.o)).mono ?_;rintro e w6 ⟨⟨on,A2,n2,c2,Al,nl,cl,A4,n4,c4,rfl,aK,bh⟩,bW⟩;have o9:=rE (kJ g0 g1 g2 g3) (lq p0 p1 p2 p3 p4 p5 p6 p7 p8 p9 al am an ao);have aa:=Hm bW;clear bW;obtain⟨OS,a7⟩: ∃q,gI x v=q:=⟨_,rfl⟩;have cW:=Hm a7;have dq:n2<=4096:=by rw[<-aK.len];exact cU.o x
   rw[a7]at aK bh aj⊢;clear a7;have cS:=Hm aK;clear aK;have cV:=Hm bh;clear bh;obtain⟨e1,aN⟩:=OS;by_cases aI:e1=0;rotate_left
   ·have q0:(e1 != 0)=true:=by simpa using aI
    have HR:Hl (E=e1):=Hm (by rw[aw.o,aj.o];simp[aI]);have ap:=Hm (fH (fH (fH ah.o Z.o) ad.o) aa.o);obtain rfl:=HR.o;obtain⟨⟨LR,g0,g1,g2,g3⟩,LC,p0,p1,p2,p3,p4,p5,p6,p7,p8,p9,al,am,an,ao⟩:=o9.o _ aa.o;go_wp2_with fail;all_goals(try(exfalso;go_light;simp_all;done));go_ret2;exact⟨⟨_,rfl,λh=>absurd h aI⟩,ap.o.alloc ap.o.size _⟩
   subst aI;obtain⟨⟨LR,g0,g1,g2,g3⟩,LC,p0,p1,p2,p3,p4,p5,p6,p7,p8,p9,al,am,an,ao⟩:=o9.o _ aa.o;go_wp2_with fail;all_goals(try(exfalso;go_light;simp_all;done));obtain⟨W4,ba⟩: ∃W,W=w6.alloc (.cells #[.string on,.slice A2 n2 c2,.slice Al nl cl,.slice A4 n4 c4] 29):=⟨_,rfl⟩;obtain⟨bY,dh,C,D,G,s3⟩:=jV ba rfl;rw[<-ba];clear ba;have ab:=Hm bY;clear bY;have LO:=lt_of_cell C;have aE:Hl (rP r v zs x=jg x r.columns aN.columns r.rows aN.rows zs):=Hm (by rw[rP,cW.o]);have aZ:=Hm (JL (r:=r) (others:=v) (zs:=zs) (c:=x));have cr:=Hm (fH aa.o ab.o);obtain⟨⟨LR,g0,g1,g2,g3⟩,LC,p0,p1,p2,p3,p4,p5,p6,p7,p8,p9,al,am,an,ao⟩:=o9.o _ cr.o;go_wp2_with fail;have aB:=Hm (fH (fH (fH (fH ah.o Z.o) ad.o) aa.o) ab.o);have aR:=Hm (fH (fH ad.o aa.o) ab.o);refine(bJ.o _ x aO aL a4 (I1.o.below aR.o) aP aM a5 (I2.o.below aR.o) aQ bp a6 (I3.o.below aR.o) (HW.o.below aB.o) (HC.o.below aB.o) (HR.o.below aB.o) on A2 n2 c2 aN.columns (cS.o.below ab.o) Al nl cl A4 n4 c4 aN.rows (cV.o.below ab.o) (HZ.o.below aB.o) bl bm dq).mono ?_;rintro e dA ⟨⟨bv,rfl,ak⟩,bb⟩;have cp:=rE (kJ g0 g1 g2 g3) (rE (lq p0 p1 p2 p3 p4 p5 p6 p7 p8 p9 al am an ao) (kJ C D G s3));have dc:=Hm bb;have ai:=Hm bb;clear bb;rw[<-aE.o]at ak⊢;clear aE;obtain⟨VO,a8⟩: ∃q,rP r v zs x=q:=⟨_,rfl⟩;have aE:=Hm a8;rw[a8]at ak aj aZ⊢;clear a8;obtain⟨e2,bad⟩:=VO;by_cases aJ:e2=0;rotate_left
   ·have q0:(e2 != 0)=true:=by simpa using aJ
    have HR:Hl (E=e2):=Hm (by rw[aw.o,aj.o];simp[aJ]);have ap:=Hm (fH (fH (fH (fH (fH ah.o Z.o) ad.o) aa.o) ab.o) ai.o);obtain rfl:=HR.o;obtain⟨⟨LR,g0,g1,g2,g3⟩,⟨LC,p0,p1,p2,p3,p4,p5,p6,p7,p8,p9,al,am,an,ao⟩,LO,C,D,G,s3⟩:=cp.o _ ai.o;go_wp2;all_goals(try(exfalso;go_light;simp_all;done));go_ret2;exact⟨⟨_,rfl,λh=>absurd h aJ⟩,ap.o⟩
   subst aJ;dsimp only at ak;have dk:bad.length<=4096:=aZ.o rfl;have cF:Hl (E=fQ (λ_=>wQ r v zs) (k+1) (l.drop (k+1))):=Hm (by rw[aw.o,aj.o];simp);obtain⟨Ab,cb,dl,bj⟩:=ak.sl;obtain rfl:=dl;obtain⟨mb,bf⟩: ∃m,bad.length=m:=⟨_,rfl⟩;rw[bf]at bj dk⊢;have aU:=Hm bf;have b0:W1.heap.size+1<=W4.heap.size:=Nat.le_trans bH.o (by have:=dh.o;have:=dg.o;have:=dc.o.size;omega);have bF:Hl (∀(V:World) k,BS W4.heap.size (λ_=>False) [50,36] V k->W4.heap.size<=V.heap.size->k<V.heap.size/\k≠W1.heap.size/\¬iF V 9 k):=Hm (λV k h hV=>⟨h.lt hV,by
     rcases h with ⟨h,_⟩|⟨h,_⟩
     ·cases h
     ·omega,λq=>by
     rcases h with ⟨h,_⟩|⟨_,t,ht,h⟩
     ·exact h
     ·simp only[List.mem_cons,List.not_mem_nil,or_false]at ht;rcases ht with rfl|rfl
      ·exact iF.ne h q (by decide) rfl
      ·exact iF.ne h q (by decide) rfl⟩)
   have aT:=Hm ak.base;have bo:=Nat.le_trans b0 ak.base;have bG:=Hm bj;clear bf bj ak aw aj aZ b0;have cs:=Hm (fH (fH aa.o ab.o) ai.o);have cj:=(dd.o.below cs.o).ty;have ct:=Hm (fH (fH (fH ad.o aa.o) ab.o) ai.o);have ce:=(bC.o.below ct.o);have b1:=(fH (fH (fH (fH (fH ah.o Z.o) ad.o) aa.o) ab.o) ai.o);have az:=(fH (fH (fH (fH Z.o ad.o) aa.o) ab.o) ai.o);have cu:=Hm (fH (fH (fH (fH (fH ah.o Z.o) ad.o) aa.o) ab.o) ai.o);have av:=(c5.o.below cu.o);obtain⟨Wi,bP⟩: ∃W,W=dA:=⟨_,rfl⟩;obtain⟨⟨LR,g0,g1,g2,g3⟩,⟨LC,p0,p1,p2,p3,p4,p5,p6,p7,p8,p9,al,am,an,ao⟩,LO,C,D,G,s3⟩:=cp.o _ ai.o;rw[<-bP]at cj ce b1 az av bo aT bG p0⊢;clear bP;have bI:=Hm cj;have bK:=Hm bo;clear bo;have cQ:=Hm ce;have dD:=Hm b1;have dC:=Hm az;have dE:=Hm av;have P0:=Hm p0;have ax:Hl (wr.heap.size≠W1.heap.size/\¬iF Wi 9 wr.heap.size):=Hm ⟨by have:=bH.o;omega,λh=>iF.ne bI.o h (by decide) rfl⟩;have cK:=Hm (Kp.refl (e:=9) (b:=W1.heap.size) az);obtain⟨wo,rfl⟩: ∃W,W=wr:=⟨_,rfl⟩;go_upto_region 11 with (fail);go_cut [47,48,49] from 24 to 46 (λdx dy dz wx=>dx=.slice Ab mb cb/\dy=.int .i64 mb/\dz=.int .i64 0/\wx=Wi)
   case first=>
    go_wp2;go_meet
    case rel=>exact⟨rfl,rfl,rfl,rfl⟩
   obtain⟨rfl,rfl,rfl,dr⟩:=hcut;obtain rfl:=dr.symm;go_wp2;go_loopw [49] (λj wi=> ∃(q m:Nat) (f':ByteArray->Value) (X:ByteArray->List ByteArray),q<=mb/\j=.int .i64 q/\NMap Tryz.prog 9 9 W1.heap.size wi W1.heap.size m f' X/\m<=n+q/\(∀s,X s=F s++mZ ws x (bad.take q) s)/\Kp 9 W1.heap.size W1 Wi wi) (λj _=>mb-(RowKit.intOf j).toNat)
   case atStart=>exact⟨0,n,f,F,Nat.zero_le _,rfl,cQ.o,by omega,(λs=>by simp[mZ]),cK.o⟩
   case round=>
    obtain⟨q,m,f',X,hq,rfl,cd,hm,bM,bd⟩:=hrel;have ac:=Hm bd;have aq:=Hm bM;have c9:=Hm (fH bq.o bd.bel);clear bd bM;obtain⟨wi,rfl⟩: ∃W,W=wr:=⟨_,rfl⟩;have aW:=Hm cd;clear cd;have c6:=Hm (c7.o.below c9.o);have dj:=ac.o.bel;by_cases dn:q<mb
    ·obtain⟨b9,o9,y,rfl,bO,HY,Ay,ny,cy,u0,u1,u2,u3⟩:=bG.o.ent dn;have j0:(0:Int)<=(q:Int):=by omega
     have j1:(q:Int)<(mb:Int):=by omega
     have aA:=bF.o _ _ bO aT.o;have r0:=ac.o.cell u0 aA.2.1 aA.2.2;have r1:=ac.o.cell u1 aA.2.1 aA.2.2;have b6:=ac.o.ko u2 (λk h=>bF.o _ k h aT.o);have cm:=ac.o.ty bI.o ax.o.1 ax.o.2;have ag:=ac.o.cell P0.o ax.o.1 ax.o.2;clear u0 u1 u2 bO aA;have a0:=lt_of_cell ag;have bx:=Hm b6;clear b6;have cY:=Hm cm;clear cm;have cn:=c6.o;have cZ:=Hm cn;clear cn;go_wp2_with fail;obtain⟨W9,aH⟩: ∃W,W=wi.alloc (.cells #[.slice Ay ny cy,.int .i64 y.count] 50):=⟨_,rfl⟩;obtain⟨bZ,dG,y0,y1⟩:=wX aH rfl;have de:Hl (iy W9 (wi.heap.size) 50 2):=Hm (by rw[aH];exact iy.made _ _ _ _ rfl);rw[<-aH];clear aH;have du:=qM ag;have ar:=Hm bZ;clear bZ;have LY:=lt_of_cell y0;obtain⟨a0,ag⟩:=du.o _ ar.o;go_wp2_with fail;refine(GR _ Aw nw cw ws (cZ.o.below ar.o) x.name Ay ny cy y.row (bx.o.below ar.o).inn).mono ?_;rintro e dB ⟨rfl,bT⟩;have cq:=rE (qM ag) (Kg y0 y1);have au:=Hm bT;clear bT;have bB:=Hm (fH ar.o au.o);cases hv:kK ws x.name y.row;rotate_left
     ·have aD:Hl (∀s,X s=F s++mZ ws x (bad.take (q+1)) s):=Hm (λs=>by rw[aq.o s,ic HY.o,xU,if_neg (by simp[hv])]);have cv:=Hm (fH ar.o au.o);have ay:=Hm (aW.o.below cv.o);obtain⟨⟨a0,ag⟩,LY,y0,y1⟩:=cq.o _ au.o;go_wp2;all_goals(try(exfalso;go_light;simp_all;done));go_roundw
      case rel=>exact⟨q+1,m,f',X,by omega,by go_num,ay.o,by omega,aD.o,ac.o.below bB.o⟩
      case measure=>simp[RowKit.intOf];omega
     ·have aX:=Hm (qh y.row);have c8:Hl (Str x.name):=Hm cT.o.1;have aY:=Hm λW h=>zU W Ay ny cy y.row h;have aD:Hl (∀s,(if s=iD y.row then X (iD y.row)++[x.name] else X s)=F s++mZ ws x (bad.take (q+1)) s):=Hm (λs=>by
       rw[ic HY.o,xU];by_cases hs:s=iD y.row
       ·rw[if_pos hs,if_pos ⟨hs.symm,hv⟩,aq.o,hs,List.append_assoc]
       ·rw[if_neg hs,if_neg λh=>hs h.1.symm,aq.o])
      obtain⟨T,hT⟩: ∃T,iD y.row=T:=⟨_,rfl⟩;rw[hT]at aX aY aD;clear hT;obtain⟨⟨a0,ag⟩,LY,y0,y1⟩:=cq.o _ au.o;go_upto_region 15 with (fail);have aS:=Hm (fH ar.o au.o);have bg:=(aW.o.below aS.o);have be:=(bx.o.below aS.o);have bk:=(cY.o.below aS.o);have bn:=(de.o.below au.o).ty;have bi:=ac.o.below bB.o;obtain⟨Wr,bQ⟩: ∃W,W=dB:=⟨_,rfl⟩;rw[<-bQ]at bg be bk bn bi y0 ag⊢;clear bQ;have cO:=Hm bg;have bz:=Hm be;have bE:=Hm bi;have Y0:=Hm y0;have C0:=Hm ag;have da:Hl (W1.heap.size+1<=wi.heap.size):=Hm (Nat.le_trans bK.o ac.o.size);have aF:Hl (wi.heap.size≠W1.heap.size/\¬iF Wr 9 wi.heap.size):=Hm ⟨by have:=da.o;omega,λh=>iF.ne bn h (by decide) rfl⟩;have br:Hl (wo.heap.size≠W1.heap.size/\¬iF Wr 9 wo.heap.size):=Hm ⟨ax.o.1,λh=>iF.ne bk h (by decide) rfl⟩;have aV:Hl (m<maxLen/\(X T).length+1<=maxLen/\((X T).length+1)*16<=140737488355328):=Hm (by
       have h1:=bu.o T;have h2:=zw ws x (bad.take q) T;have h3:=congrArg List.length (aq.o T);rw[List.length_append]at h3;have h4:(bad.take q).length<=q:=by rw[List.length_take];omega
       simp only[maxLen];omega)
      clear bg be bk bn bi y0 ag y1;refine uy (by kernel_rfl) lJ (by kernel_rfl) (λL a V=> ∃v60 v61 v62 v63 v64 v65 v66 v67 v68 v69 v70 v71 v72,a=⟨#[.agg #[.string r.name,.slice A1 n1 c1,.slice Ak nk ck,.slice A3 n3 c3],.slice (some ⟨bL,oL,none⟩) nc cc,.slice Ao no co,.slice Aw nw cw,.slice Az nz cz,.pointer (some ⟨w.heap.size,0,none⟩),undef,undef,undef,undef,u10,u11,.map (some W1.heap.size),undef,.pointer (some ⟨wo.heap.size,0,none⟩),.pointer (some ⟨w6.heap.size,0,none⟩),.int .i64 0,.slice (some ⟨b9,o9,none⟩) mb cb,undef,.pointer (some ⟨wi.heap.size,0,none⟩),.map (some W1.heap.size),.slice (some ⟨bL,oL,none⟩) nc cc,.int .i64 ↑nc,.int .i64 ↑k,u24,u25,u26,u27,u28,u29,u30,u31,u32,u33,u34,u35,u36,u37,u38,u39,u40,u41,u42,u43,u44,u45,u46,.slice (some ⟨b9,o9,none⟩) mb cb,.int .i64 ↑mb,.int .i64 ↑q,.bool true,.pointer (some ⟨b9,o9+q*2,none⟩),.agg #[.slice Ay ny cy,.int .i64 y.count],.slice Aw nw cw,.pointer (some ⟨wo.heap.size,0,none⟩),.string x.name,.pointer (some ⟨wi.heap.size,0,none⟩),.slice Ay ny cy,.bool false,.bool true,v60,v61,v62,v63,v64,v65,v66,v67,v68,v69,v70,v71,v72,u73,u74,undef],[]⟩/\R15 W1.heap.size W1.heap.size m W1 Wr f' X T x.name wo.heap.size wi.heap.size Ay ny cy V v60 v61 v62 v63 v64 v65 v66 v67 v68 v69 v70 v71 v72 L) ?_ ?_ ?_
      ·exact⟨_,_,_,_,_,_,_,_,_,_,_,_,_,rfl,{kp:=(Kp.refl bE.o.bel).below (Below.refl _ _).drew,f0:=(λq=>by cases q),f1:=(λq=>by cases q),f2:=(λq=>by cases q),f3:=(λq=>by cases q),f4:=(λq=>by cases q),f5:=(λq=>by cases q),f6:=(λq=>by cases q),f7:=(λq=>by cases q),f8:=(λq=>by cases q),f9:=(λq=>by cases q),f10:=(λq=>by cases q),f11:=(λq=>by cases q),s0:=(λ_=>cO.o.below (Below.refl _ _).drew),s1:=(λq=>by cases q),s2:=(λq=>by cases q),o8:=(λq=>by cases q),o12:=(λq=>by cases q),o13:=(λq=>by cases q)}⟩
      ·intro L i a V hi hL hd hI;obtain⟨v60,v61,v62,v63,v64,v65,v66,v67,v68,v69,v70,v71,v72,rfl,hI⟩:=hI;have hi:i<14:=hi;have d:=Hm hI;have H:=Hm hd;have af:=Hm hL;clear hI hd hL;obtain rfl|rfl|rfl|rfl|rfl|rfl|rfl|rfl|rfl|rfl|rfl|rfl|rfl|rfl:i=0\/i=1\/i=2\/i=3\/i=4\/i=5\/i=6\/i=7\/i=8\/i=9\/i=10\/i=11\/i=12\/i=13:=by omega
       ·refine wpOp_step rfl (λY p=>?_);have u:=Hm p;clear p;go_simp;exact u.o _ _ ⟨_,_,_,_,_,_,_,_,_,_,_,_,_,rfl,{kp:=d.o.kp,f0:=(λ_=>rfl),f1:=d.o.f1,f2:=d.o.f2,f3:=d.o.f3,f4:=d.o.f4,f5:=d.o.f5,f6:=d.o.f6,f7:=d.o.f7,f8:=d.o.f8,f9:=d.o.f9,f10:=d.o.f10,f11:=d.o.f11,s0:=d.o.s0,s1:=d.o.s1,s2:=d.o.s2,o8:=d.o.o8,o12:=d.o.o12,o13:=d.o.o13}⟩
       ·refine wpOp_step rfl (λY p=>?_);have u:=Hm p;clear p;go_simp;exact u.o _ _ ⟨_,_,_,_,_,_,_,_,_,_,_,_,_,rfl,{kp:=d.o.kp,f0:=d.o.f0,f1:=(λ_=>rfl),f2:=d.o.f2,f3:=d.o.f3,f4:=d.o.f4,f5:=d.o.f5,f6:=d.o.f6,f7:=d.o.f7,f8:=d.o.f8,f9:=d.o.f9,f10:=d.o.f10,f11:=d.o.f11,s0:=d.o.s0,s1:=d.o.s1,s2:=d.o.s2,o8:=d.o.o8,o12:=d.o.o12,o13:=d.o.o13}⟩
       ·obtain rfl:=d.o.f1 (H.o 1 (by simp[lJ]));have c0:=d.o.kp.cell Y0.o aF.o.1 aF.o.2;refine wpOp_step rfl (λY p=>?_);have u:=Hm p;clear p;go_simp;exact u.o _ _ ⟨_,_,_,_,_,_,_,_,_,_,_,_,_,rfl,{kp:=d.o.kp,f0:=d.o.f0,f1:=d.o.f1,f2:=(λ_=>rfl),f3:=d.o.f3,f4:=d.o.f4,f5:=d.o.f5,f6:=d.o.f6,f7:=d.o.f7,f8:=d.o.f8,f9:=d.o.f9,f10:=d.o.f10,f11:=d.o.f11,s0:=d.o.s0,s1:=d.o.s1,s2:=d.o.s2,o8:=d.o.o8,o12:=d.o.o12,o13:=d.o.o13}⟩
       ·obtain rfl:=d.o.f2 (H.o 2 (by simp[lJ]));refine wpOp_step rfl (λY p=>?_);have u:=Hm p;clear p;go_simp;go_at_call 38;refine(aY.o _ (d.o.kp.ko2 bz.o).inn).mono ?_;rintro e w1 ⟨rfl,hb⟩;have HB:=Hm hb;clear hb;go_wp2_with fail;exact u.o _ _ ⟨_,_,_,_,_,_,_,_,_,_,_,_,_,rfl,{kp:=d.o.kp.below HB.o,f0:=d.o.f0,f1:=d.o.f1,f2:=d.o.f2,f3:=(λ_=>rfl),f4:=d.o.f4,f5:=d.o.f5,f6:=d.o.f6,f7:=d.o.f7,f8:=d.o.f8,f9:=d.o.f9,f10:=d.o.f10,f11:=(λh=>by obtain⟨g,e1,q1⟩:=d.o.f11 h;exact⟨g,e1,λz=>(HB.o.block g (Array.getElem?_eq_some_iff.1 (q1 z)).1).trans (q1 z)⟩),s0:=(λh=>(d.o.s0 h).below HB.o),s1:=(λh h1=>(d.o.s1 h h1).below HB.o),s2:=(λh=>absurd (d.o.o13 h).2.1 (by rw[af.o];decide)),o8:=d.o.o8,o12:=d.o.o12,o13:=(λh=>by obtain⟨a1,a2,a3⟩:=d.o.o13 h;exact⟨a1,rfl,a3⟩)}⟩
       ·refine wpOp_step rfl (λY p=>?_);have u:=Hm p;clear p;go_simp;exact u.o _ _ ⟨_,_,_,_,_,_,_,_,_,_,_,_,_,rfl,{kp:=d.o.kp,f0:=d.o.f0,f1:=d.o.f1,f2:=d.o.f2,f3:=d.o.f3,f4:=(λ_=>rfl),f5:=d.o.f5,f6:=d.o.f6,f7:=d.o.f7,f8:=d.o.f8,f9:=d.o.f9,f10:=d.o.f10,f11:=d.o.f11,s0:=d.o.s0,s1:=d.o.s1,s2:=d.o.s2,o8:=d.o.o8,o12:=d.o.o12,o13:=d.o.o13}⟩
       ·refine wpOp_step rfl (λY p=>?_);have u:=Hm p;clear p;go_simp;exact u.o _ _ ⟨_,_,_,_,_,_,_,_,_,_,_,_,_,rfl,{kp:=d.o.kp,f0:=d.o.f0,f1:=d.o.f1,f2:=d.o.f2,f3:=d.o.f3,f4:=d.o.f4,f5:=(λ_=>rfl),f6:=d.o.f6,f7:=d.o.f7,f8:=d.o.f8,f9:=d.o.f9,f10:=d.o.f10,f11:=d.o.f11,s0:=d.o.s0,s1:=d.o.s1,s2:=d.o.s2,o8:=d.o.o8,o12:=d.o.o12,o13:=d.o.o13}⟩
       ·obtain rfl:=d.o.f5 (H.o 5 (by simp[lJ]));have c0:=d.o.kp.cell Y0.o aF.o.1 aF.o.2;refine wpOp_step rfl (λY p=>?_);have u:=Hm p;clear p;go_simp;exact u.o _ _ ⟨_,_,_,_,_,_,_,_,_,_,_,_,_,rfl,{kp:=d.o.kp,f0:=d.o.f0,f1:=d.o.f1,f2:=d.o.f2,f3:=d.o.f3,f4:=d.o.f4,f5:=d.o.f5,f6:=(λ_=>rfl),f7:=d.o.f7,f8:=d.o.f8,f9:=d.o.f9,f10:=d.o.f10,f11:=d.o.f11,s0:=d.o.s0,s1:=d.o.s1,s2:=d.o.s2,o8:=d.o.o8,o12:=d.o.o12,o13:=d.o.o13}⟩
       ·obtain rfl:=d.o.f6 (H.o 6 (by simp[lJ]));refine wpOp_step rfl (λY p=>?_);have u:=Hm p;clear p;go_simp;go_at_call 38;refine(aY.o _ (d.o.kp.ko2 bz.o).inn).mono ?_;rintro e w1 ⟨rfl,hb⟩;have HB:=Hm hb;clear hb;go_wp2_with fail;exact u.o _ _ ⟨_,_,_,_,_,_,_,_,_,_,_,_,_,rfl,{kp:=d.o.kp.below HB.o,f0:=d.o.f0,f1:=d.o.f1,f2:=d.o.f2,f3:=d.o.f3,f4:=d.o.f4,f5:=d.o.f5,f6:=d.o.f6,f7:=(λ_=>rfl),f8:=d.o.f8,f9:=d.o.f9,f10:=d.o.f10,f11:=(λh=>by obtain⟨g,e1,q1⟩:=d.o.f11 h;exact⟨g,e1,λz=>(HB.o.block g (Array.getElem?_eq_some_iff.1 (q1 z)).1).trans (q1 z)⟩),s0:=(λh=>(d.o.s0 h).below HB.o),s1:=(λh h1=>(d.o.s1 h h1).below HB.o),s2:=(λh=>absurd (d.o.o13 h).2.2 (by rw[af.o];decide)),o8:=(λ_=>rfl),o12:=d.o.o12,o13:=(λh=>by obtain⟨a1,a2,a3⟩:=d.o.o13 h;exact⟨a1,a2,rfl⟩)}⟩
       ·obtain rfl:=d.o.f4 (H.o 4 (by simp[lJ]));obtain rfl:=d.o.f7 (H.o 7 (by simp[lJ]));have ae:L 12=false:=Bool.eq_false_iff.2 λh=>absurd (d.o.o12 h).1 (by rw[af.o];decide);have lk:=(d.o.s0 ae).look Tryz.underlying91 Tryz.underlying9 (λV=>Tryz.zeroValue43 V) aX.o (V:=V) rfl;refine wpOp_step rfl (λY p=>?_);have u:=Hm p;clear p;go_simp;exact u.o _ _ ⟨_,_,_,_,_,_,_,_,_,_,_,_,_,rfl,{kp:=d.o.kp,f0:=d.o.f0,f1:=d.o.f1,f2:=d.o.f2,f3:=d.o.f3,f4:=d.o.f4,f5:=d.o.f5,f6:=d.o.f6,f7:=d.o.f7,f8:=(λ_=>rfl),f9:=d.o.f9,f10:=d.o.f10,f11:=d.o.f11,s0:=d.o.s0,s1:=d.o.s1,s2:=d.o.s2,o8:=(λ_=>H.o 7 (by simp[lJ])),o12:=(λh=>⟨rfl,(d.o.o12 h).2⟩),o13:=d.o.o13}⟩
       ·refine wpOp_step rfl (λY p=>?_);have u:=Hm p;clear p;go_simp;exact u.o _ _ ⟨_,_,_,_,_,_,_,_,_,_,_,_,_,rfl,{kp:=d.o.kp,f0:=d.o.f0,f1:=d.o.f1,f2:=d.o.f2,f3:=d.o.f3,f4:=d.o.f4,f5:=d.o.f5,f6:=d.o.f6,f7:=d.o.f7,f8:=d.o.f8,f9:=(λ_=>rfl),f10:=d.o.f10,f11:=d.o.f11,s0:=d.o.s0,s1:=d.o.s1,s2:=d.o.s2,o8:=d.o.o8,o12:=d.o.o12,o13:=d.o.o13}⟩
       ·obtain rfl:=d.o.f9 (H.o 9 (by simp[lJ]));have c0:=d.o.kp.cell C0.o br.o.1 br.o.2;refine wpOp_step rfl (λY p=>?_);have u:=Hm p;clear p;go_simp;exact u.o _ _ ⟨_,_,_,_,_,_,_,_,_,_,_,_,_,rfl,{kp:=d.o.kp,f0:=d.o.f0,f1:=d.o.f1,f2:=d.o.f2,f3:=d.o.f3,f4:=d.o.f4,f5:=d.o.f5,f6:=d.o.f6,f7:=d.o.f7,f8:=d.o.f8,f9:=d.o.f9,f10:=(λ_=>rfl),f11:=d.o.f11,s0:=d.o.s0,s1:=d.o.s1,s2:=d.o.s2,o8:=d.o.o8,o12:=d.o.o12,o13:=d.o.o13}⟩
       ·obtain rfl:=d.o.f10 (H.o 10 (by simp[lJ]));have ae:L 12=false:=Bool.eq_false_iff.2 λh=>absurd (d.o.o12 h).2 (by rw[af.o];decide);refine wpOp_step rfl (λY p=>?_);have u:=Hm p;clear p;go_simp;exact u.o _ _ ⟨_,_,_,_,_,_,_,_,_,_,_,_,_,rfl,{kp:=d.o.kp.below fI,f0:=d.o.f0,f1:=d.o.f1,f2:=d.o.f2,f3:=d.o.f3,f4:=d.o.f4,f5:=d.o.f5,f6:=d.o.f6,f7:=d.o.f7,f8:=d.o.f8,f9:=d.o.f9,f10:=d.o.f10,f11:=(λ_=>⟨_,rfl,λ_=>heap_alloc_new _ _⟩),s0:=(λh=>(d.o.s0 h).below fI),s1:=(λh=>absurd h (by rw[ae];decide)),s2:=(λh=>absurd (d.o.o13 h).1 (by rw[ae];decide)),o8:=d.o.o8,o12:=(λh=>⟨(d.o.o12 h).1,rfl⟩),o13:=d.o.o13}⟩
       ·obtain rfl:=d.o.f8 (H.o 8 (by simp[lJ]));obtain⟨g,rfl,hg⟩:=d.o.f11 (H.o 11 (by simp[lJ]));have HG:=Hm (hg af.o);have aC:=Hm (d.o.s0 af.o);clear hg;refine wpOp_step rfl (λY p=>?_);have u:=Hm p;clear p;refine uu V rfl _ _ _ rfl mq (by simp) (aC.o.own T) (by simp[Act.eval,Act.put]) (some ⟨g,0,none⟩) 1 1 [.string x.name] [x.name] (by simp[Act.eval,Act.put]) (by intro h;cases h) (O7 HG.o) (Cells.one ⟨rfl,c8.o⟩) rfl aV.o.2.1 aV.o.2.2 ?_;intro v9 w9 cg di b5 bS;have cR:=Hm cg;have bw:=Hm b5;have cC:=Hm bS;clear cg di b5 bS;exact u.o _ _ ⟨_,_,_,_,_,_,_,_,_,_,_,_,_,rfl,{kp:=d.o.kp.own bw.o (λk h=>⟨((aC.o.own T).ty h).1,.inr ((aC.o.own T).ty h).2⟩),f0:=d.o.f0,f1:=d.o.f1,f2:=d.o.f2,f3:=d.o.f3,f4:=d.o.f4,f5:=d.o.f5,f6:=d.o.f6,f7:=d.o.f7,f8:=d.o.f8,f9:=d.o.f9,f10:=d.o.f10,f11:=(λ_=>⟨g,rfl,λh=>absurd h (by simp)⟩),s0:=(λh=>absurd h (by simp)),s1:=(λ_ _=>⟨V,aC.o,bw.o,cR.o,cC.o.imp id λh=>⟨_,h,Nat.le_refl _⟩⟩),s2:=(λh=>absurd (d.o.o13 h).1 (by rw[af.o];decide)),o8:=d.o.o8,o12:=(λ_=>⟨H.o 8 (by simp[lJ]),H.o 11 (by simp[lJ])⟩),o13:=(λh=>absurd (d.o.o13 h).1 (by rw[af.o];decide))}⟩
       ·obtain rfl:=d.o.f0 (H.o 0 (by simp[lJ]));obtain rfl:=d.o.f3 (H.o 3 (by simp[lJ]));have ae:=H.o 12 (by simp[lJ]);obtain⟨V0,b7,b3,cf,bR⟩:=d.o.s1 ae af.o;obtain⟨w7,dN,b8,b4⟩:=b7.push Tryz.underlying91 Tryz.underlying9 aX.o aV.o.1 b3 cf bR;have cN:=Hm b8;have cI:=Hm b4;clear b7 b3 cf bR b8 b4;refine wpOp_step rfl (λY p=>?_);have u:=Hm p;clear p;go_simp;exact u.o _ _ ⟨_,_,_,_,_,_,_,_,_,_,_,_,_,rfl,{kp:=d.o.kp.own cI.o (λk h=>by injection h with h;subst h;exact⟨Nat.le_refl _,.inl rfl⟩),f0:=d.o.f0,f1:=d.o.f1,f2:=d.o.f2,f3:=d.o.f3,f4:=d.o.f4,f5:=d.o.f5,f6:=d.o.f6,f7:=d.o.f7,f8:=d.o.f8,f9:=d.o.f9,f10:=d.o.f10,f11:=(λh=>by obtain⟨g,e1,q1⟩:=d.o.f11 h;exact⟨g,e1,λz=>absurd z (by rw[ae];decide)⟩),s0:=(λh=>absurd h (by rw[ae];decide)),s1:=(λ_ h=>absurd h (by simp)),s2:=(λ_=>⟨_,cN.o⟩),o8:=d.o.o8,o12:=d.o.o12,o13:=(λ_=>⟨ae,H.o 3 (by simp[lJ]),d.o.o8 (d.o.o12 ae).1⟩)}⟩
      ·intro L a V hL hI;obtain⟨v60,v61,v62,v63,v64,v65,v66,v67,v68,v69,v70,v71,v72,rfl,hI⟩:=hI;obtain⟨I,h2⟩:=hI.s2 (hL 13 (by show 13<14;omega));have cM:=Hm h2;have cJ:=Hm (bE.o.trans hI.kp);clear h2 hI hL;go_wp2;go_roundw
       case rel=>exact⟨q+1,m+1,I,_,by omega,by go_num,cM.o,by omega,aD.o,cJ.o⟩
       case measure=>simp[RowKit.intOf];omega
    ·have cH:Hl (∀s,X s=sW r v ws zs (l.take (k+1)) s):=Hm (λs=>by
      rw[aq.o s,List.take_of_length_le (by rw[aU.o];omega),bt.o s,ic HX.o,JM,aE.o])
     have cG:Hl (∀s,(X s).length<=(k+1)*4096):=Hm (λs=>by
      rw[aq.o s,List.length_append,List.take_of_length_le (by rw[aU.o];omega)];have h1:=bu.o s;have h2:=zw ws x bad s;have h3:=aU.o;omega)
     have ay:=Hm aW.o;have dt:W1.heap.size+1<=wi.heap.size:=Nat.le_trans bK.o ac.o.size;go_wp2;go_roundw
     case rel=>exact⟨k+1,m,f',X,by omega,by go_num,ay.o,by omega,cH.o,cG.o,cF.o,dj,dt⟩
     case measure=>simp[RowKit.intOf];omega
  ·obtain rfl:E=0:=by rw[bs.o,List.drop_eq_nil_of_le (by rw[bA.o];omega)];rfl
   have cP:Hl (∀s,F s=sW r v ws zs l s):=Hm (λs=>by rw[bt.o s,List.take_of_length_le (by rw[bA.o];omega)]);have ay:=Hm bC.o;have ap:=Hm (fH ah.o Z.o);obtain⟨LR,g0,g1,g2,g3⟩:=o2.o _ Z.o;go_wp2;go_ret2;exact⟨⟨_,rfl,_,rfl,n,f,(ay.o.congr cP.o).rebase bq.o.size⟩,ap.o⟩
theorem IG:Elem Tryz.prog 51 57 4 72:=mU (.agg #[.string ⟨#[]⟩,.slice none 0 0,.int .i64 0,.slice none 0 0]) Tryz.underlying51 (by kernel_rfl) rfl (by decide)
theorem uq {α:Type}[Rep α]{w w':World}{B n c:Nat}{O:Nat->Prop}{T:List TypeId}{A:Option Addr}{xs:List α}(hs:Sl w (BS B O T w) A n c xs)(b:B<=w.heap.size)(hb:Below w.heap.size w w'):Sl w' (BS B O T w') A n c xs:=
 (Sl.keep (λk a=>hb.block k (a.lt b)) hs).mono λk a=>a.below b hb
theorem OL.besideT {α β:Type}[Rep α][Rep β]{e c:TypeId}{B:Nat}{O i:Nat->Prop}{T j:List TypeId}{w g:World}{a b:Value}{xs:List α}{h:List β}(hb:OL c B O T w b h)(d:OL e B i j w a xs)(p:e≠c)(n:e∉T)(o:w.grownBy g a.ownBlock):OL c B O T g b h:=
 hb.grown o λk f=>⟨λq=>iF.ne (d.ty f).2 (hb.ty q).2 p rfl,λq=>by
  have m:=d.ty f;rcases q with ⟨_,q⟩|⟨_,t,r,q⟩
  ·omega
  ·exact iF.ne m.2 q (λl=>n (l▸r)) rfl⟩
theorem IV {α β:Type}(p:α->Bool)(g:α->β)(l:List α)(x:α):((l++[x]).filter p).map g=if p x=true then(l.filter p).map g++[g x] else(l.filter p).map g:=by
 rw[List.filter_append,List.filter_cons];cases p x<;>simp
theorem DY (w:World)(r:Rel)(A1:Option Addr)(Z c1:Nat)(hc:In w A1 Z c1 r.columns)(Ak:Option Addr)(nk ck:Nat)(A3:Option Addr)(n3 c3:Nat)(hr:In w A3 n3 c3 r.rows)(Ac:Option Addr)(nc cc:Nat)(l:List Chk)(hl:In w Ac nc cc l)(Ao:Option Addr)(no co:Nat)(s:List Rel)(ho:In w Ao no co s)(Aw:Option Addr)(nw cw:Nat)(ws:List Wvr)(bE:In w Aw nw cw ws)(Az:Option Addr)(nz cz:Nat)(zs:List Zone)(hz:In w Az nz cz zs)(hw:Words w)(cd:Z<=4096)(bl:nc<=4096)(af: ∀c∈l,c.cols.length<=4096/\c.ocols.length<=4096)(ag: ∀o∈s,o.columns.length<=4096)(cm:Str r.name):
  Calls Tryz.prog 14 #[.agg #[.string r.name,.slice A1 Z c1,.slice Ak nk ck,.slice A3 n3 c3],.slice Ac nc cc,.slice Ao no co,.slice Aw nw cw,.slice Az nz cz] w
   λe w'=>(∃A7 m7 c7 A8 m8 c8,e=.returned (.tuple #[.slice A7 m7 c7,.slice A8 m8 c8,.int .i64 (Am r l s ws zs).1])/\In w' A7 m7 c7 (Am r l s ws zs).2.1/\In w' A8 m8 c8 (Am r l s ws zs).2.2)/\Below w.heap.size w w':=by
 have b8:=Hm λW Ac nc cc L hL e1 e2 Y h2 h3 h4 h5 h6=>Bj W r A1 Z c1 Y Ak nk ck A3 n3 c3 h2 Ac nc cc L hL Ao no co s h3 Aw nw cw ws h4 Az nz cz zs h5 h6 cd e1 e2 ag;have a7:Hl (∀c∈kr l r.name,c.cols.length<=4096/\c.ocols.length<=4096):=Hm (λc hc=>af c (List.mem_filter.1 hc).1);have a8:Hl ((kr l r.name).length<=4096):=Hm (Nat.le_trans (List.length_filter_le _ _) (by rw[hl.len];exact bl));have a9:=Hm λW h=>ui W Ac nc cc l h r.name bl;have M:Hl (Am r l s ws zs=if sV r s zs (kr l r.name)≠0 then(sV r s zs (kr l r.name),[],[]) else if gN r.rows≠0 then(gN r.rows,[],[]) else if jJ r.rows=false then(8,[],[]) else(0,r.rows.filter (λx=>(sW r s ws zs (kr l r.name) (iD x.row)).isEmpty),(r.rows.filter λx=>!(sW r s ws zs (kr l r.name) (iD x.row)).isEmpty).map λx=>⟨r.name,x.row,x.count,sW r s ws zs (kr l r.name) (iD x.row)⟩)):=Hm rfl;obtain⟨R,hR⟩: ∃R,Am r l s ws zs=R:=⟨_,rfl⟩;rw[hR]at M⊢;clear hR;obtain⟨own,bC⟩: ∃o,kr l r.name=o:=⟨_,rfl⟩;rw[bC]at M a7 a8 a9;clear bC;obtain⟨VE,aG⟩: ∃e,sV r s zs own=e:=⟨_,rfl⟩;have bc:=Hm aG;rw[aG]at M;obtain⟨a,aF⟩: ∃f,sW r s ws zs own=f:=⟨_,rfl⟩;have b1:=Hm aF;rw[aF]at M;clear aG aF af ag;have cA:=hr.le;have a3:=Hm hr.len;have b3:=Hm cm;go_enter Tryz.func14,Tryz.ntmps14;have HL:=Hm hl;clear hl;have HO:=Hm ho;clear ho;have b9:=Hm bE;clear bE;have HZ:=Hm hz;clear hz;have HW:=Hm hw;clear hw;have HC:=Hm hc;clear hc;have HR:=Hm hr;clear hr;go_upto_region 1 with (fail);obtain⟨W1,aH⟩: ∃W,W=w.alloc (.cells #[.string r.name,.slice A1 Z c1,.slice Ak nk ck,.slice A3 n3 c3] 29):=⟨_,rfl⟩;obtain⟨bq,cx,d,B,C,j⟩:=jV aH rfl;rw[<-aH];clear aH;have u:=Hm bq;clear bq;have I:=lt_of_cell d;have bf:=Hm d;have bg:=Hm B;have bh:=Hm C;have bi:=Hm j;have J:=Hm I;have cs:True:=trivial;go_region_held3 (λV=>V.cell? ⟨w.heap.size,0,none⟩=some (.string r.name)/\V.cell? ⟨w.heap.size,1,none⟩=some (.slice A1 Z c1)/\V.cell? ⟨w.heap.size,2,none⟩=some (.slice Ak nk ck)/\V.cell? ⟨w.heap.size,3,none⟩=some (.slice A3 n3 c3))
  (first|exact⟨fO ad.o J.o bf.o,fO ad.o J.o bg.o,fO ad.o J.o bh.o,fO ad.o J.o bi.o⟩|exact⟨fO y.o J.o bf.o,fO y.o J.o bg.o,fO y.o J.o bh.o,fO y.o J.o bi.o⟩|exact⟨d,B,C,j⟩)
  (first|(clear cs;go_at_call 34;refine(a9.o _ (by exact(HL.o.below u.o).below (Below.refl _ _).drew)).mono ?_;rintro e w3 ⟨⟨v5,rfl,bz⟩,af⟩;have y:=Hm (fP af);obtain⟨A5,c5,rfl,aM⟩:=bz.inn;obtain⟨m5,am⟩: ∃m,own.length=m:=⟨_,rfl⟩;have bZ:=Hm am;rw[am]at aM;rw[am];have bU:=Hm aM;clear bz aM am;clear af;have ct:True:=trivial)|(clear ct;go_at_call 33;refine(b8.o _ _ _ _ own (by exact bU.o) (by rw[<-bZ.o];exact a8.o) a7.o (by exact(HC.o.below u.o).below y.o) (by exact(HR.o.below u.o).below y.o) (by exact(HO.o.below u.o).below y.o) (by exact(b9.o.below u.o).below y.o) (by exact(HZ.o.below u.o).below y.o) (by exact(HW.o.below u.o).below y.o)).mono ?_;rintro e w4 ⟨⟨mp,rfl,aP⟩,ag⟩;have ad:=Hm (fH y.o ag);rw[bc.o]at aP;rw[bc.o];have a5:=Hm aP;clear aP;clear ag;have cu:True:=trivial))
 have bp:=ad.o;clear cu;have o6:=kJ d B C j;have v:=Hm bp;clear bp;by_cases G:VE=0;rotate_left
 ·have q0:(VE==0)=false:=by simpa using G
  have q1:(VE != 0)=true:=by simpa using G
  obtain rfl:R=(VE,[],[]):=by rw[M.o,if_pos G]
  have aa:=Hm (fH u.o v.o);obtain⟨I,d,B,C,j⟩:=o6.o _ v.o;go_wp2;all_goals(try(exfalso;go_light;simp_all;done))
  go_ret3
  exact⟨⟨none,0,0,none,0,0,rfl,In.nil_,In.nil_⟩,aa.o⟩
 have a6:=Hm (a5.o G);subst G;obtain⟨bm,nm,f,rfl,aQ⟩:=a6.o;rw[b1.o]at aQ;have b0:=Hm aQ;clear aQ;clear a5 a6;have ab:Hl (R=if gN r.rows≠0 then(gN r.rows,[],[]) else if jJ r.rows=false then(8,[],[]) else(0,r.rows.filter (λx=>(a (iD x.row)).isEmpty),(r.rows.filter λx=>!(a (iD x.row)).isEmpty).map λx=>⟨r.name,x.row,x.count,a (iD x.row)⟩)):=Hm (by rw[M.o];simp);clear M;obtain⟨I,d,B,C,j⟩:=o6.o _ v.o;go_wp2_with fail;have bP:=Hm (fH u.o v.o);refine(Cs _ A3 n3 c3 r.rows (HR.o.below bP.o)).mono ?_;rintro e w8 ⟨rfl,bo⟩;have ae:=Hm bo;clear bo;obtain⟨BE,aE⟩: ∃e,gN r.rows=e:=⟨_,rfl⟩;have aZ:=Hm aE;rw[aE]at ab⊢;clear aE;by_cases G:BE=0;rotate_left
 ·have q1:(BE != 0)=true:=by simpa using G
  obtain rfl:R=(BE,[],[]):=by rw[ab.o,if_pos G]
  have aa:=Hm (fH (fH u.o v.o) ae.o);have bG:=Hm (fH v.o ae.o);obtain⟨I,d,B,C,j⟩:=o6.o _ bG.o;go_wp2;all_goals(try(exfalso;go_light;simp_all;done))
  go_ret3
  exact⟨⟨none,0,0,none,0,0,rfl,In.nil_,In.nil_⟩,aa.o⟩
 subst G;have bH:=Hm (fH v.o ae.o);obtain⟨I,d,B,C,j⟩:=o6.o _ bH.o;go_wp2_with fail;have bI:=Hm (fH (fH u.o v.o) ae.o);refine(xP _ A3 n3 c3 r.rows (HR.o.below bI.o)).mono ?_;rintro e cv ⟨rfl,bk⟩;have S:=Hm (fH ae.o bk);clear bk;cases hit:jJ r.rows
 ·obtain rfl:R=(8,[],[]):=by rw[ab.o,hit];simp
  have aa:=Hm (fH (fH u.o v.o) S.o);have bJ:=Hm (fH v.o S.o);obtain⟨I,d,B,C,j⟩:=o6.o _ bJ.o;go_wp2;all_goals(try(exfalso;go_light;simp_all;done))
  go_ret3
  exact⟨⟨none,0,0,none,0,0,rfl,In.nil_,In.nil_⟩,aa.o⟩
 have bS:Hl (R=(0,r.rows.filter (λx=>(a (iD x.row)).isEmpty),(r.rows.filter λx=>!(a (iD x.row)).isEmpty).map λx=>⟨r.name,x.row,x.count,a (iD x.row)⟩)):=Hm (by rw[ab.o,hit];simp);obtain⟨an,cn⟩:=jm aZ.o hit;have cC:n3<=4096:=by rw[<-a3.o];exact an
 have b4:Hl (∀x∈r.rows,x.row.length<=12):=Hm (λx hx=>by
  have Y:=((lX.1 aZ.o).2.1 x hx).1;rw[ib]at Y;by_cases q:12<x.row.length\/x.count < -65536\/65536<x.count
  ·rw[if_pos q]at Y;omega
  ·omega)
 clear ab hit an cn;obtain⟨F,bj⟩: ∃W,W=cv:=⟨_,rfl⟩;have bx:=(b0.o.below S.o);have bK:=Hm (fH (fH u.o v.o) S.o);have aR:=(HR.o.below bK.o);have bs:=(fH (fH u.o v.o) S.o);have bL:=Hm (fH v.o S.o);obtain⟨I,d,B,C,j⟩:=o6.o _ bL.o;rw[<-bj]at bx aR bs d B C j I⊢;clear bj;have bR:=Hm bs;have ac:=Hm bx;have b2:=Hm aR;clear aR;have Q:=lt_of_cell d;go_wp2;all_goals(try(exfalso;go_light;simp_all;done));go_loopw [15,16,48] (λt h i wr=> ∃(k:Nat) (A:List Ent) (z:List Quar),k<=n3/\i=.int .i64 k/\A=(r.rows.take k).filter (λx=>(a (iD x.row)).isEmpty)/\z=((r.rows.take k).filter λx=>!(a (iD x.row)).isEmpty).map (λx=>⟨r.name,x.row,x.count,a (iD x.row)⟩)/\A.length<=k/\z.length<=k/\OL 50 F.heap.size (λ_=>False) [36] wr t A/\OL 57 F.heap.size (λ_=>True) [36] wr h z/\Below F.heap.size F wr) (λ_ _ i _=>n3-(RowKit.intOf i).toNat)
 case atStart=>exact⟨0,[],[],Nat.zero_le _,rfl,by simp,by simp,by simp,by simp,OL.nil (Nat.le_refl _),OL.nil (Nat.le_refl _),Below.refl _ _⟩
 case round=>
  obtain⟨k,A,z,n,rfl,bF,bD,cr,cj,bB,bA,hb⟩:=hrel;have aD:=Hm bF;have aA:=Hm bD;clear bF bD;have aU:=Kg d j;have E:=Hm hb;clear hb;have ay:=Hm bB;clear bB;have ax:=Hm bA;clear bA;by_cases ci:k<n3
  ·obtain⟨b,off,x,rfl,cB,HX,Ax,D,aW,e0,e1,e2,e3⟩:=(b2.o.below E.o).ent ci;have k0:(0:Int)<=(k:Int):=by omega
   have k1:(k:Int)<(n3:Int):=by omega
   have cp:=gH HX.o;have an:D<=1048576:=by have Y:=b4.o x cp;rw[e2.len]at Y;omega
   have a1:=Hm e3;have bT:=Hm e2;clear e2;have bY:=Hm E.o;obtain⟨Q,d,j⟩:=aU.o _ E.o;go_wp2_with fail;obtain⟨W5,aI⟩: ∃W,W=wr.alloc (.cells #[.slice Ax D aW,.int .i64 x.count] 50):=⟨_,rfl⟩;obtain⟨br,cb,x0,x1⟩:=wX aI rfl;rw[<-aI];clear aI;have N:=Hm br;clear br;have L5:=lt_of_cell x0;clear e0 e1;have bM:=Hm (fH E.o N.o);obtain⟨Q,d,j⟩:=aU.o _ bM.o;go_wp2_with fail;refine(uB _ Ax D aW x.row (bT.o.below N.o) an).mono ?_;rintro e ao ⟨⟨P,X,rfl,aS⟩,bn⟩;have aV:=rE (Kg d j) (Kg x0 x1);have K:=Hm bn;clear bn;have bu:In ao P D X x.row:=In.of_sl aS λk n=>n.2.lt;have aC:=Hm (aS.mono λk n=>show BS F.heap.size (λ_=>False) [36] ao k from .inr ⟨Nat.le_trans bY.o.size (by have:=n.1;have:=cb.o;omega),_,by simp,n.2⟩);clear aS;have ap:=Hm (show F.heap.size<=ao.heap.size from(fH (fH E.o N.o) K.o).size);obtain⟨W6,aJ⟩: ∃W,W=ao:=⟨_,rfl⟩;have a2:=Hm aJ;rw[<-aJ]at aC ap;clear aJ;have bV:=Hm bu;clear bu;have ba:=Hm (qh x.row);have be:Hl (∀(p:Ent->Bool) (g:Ent->Quar),((r.rows.take (k+1)).filter p).map g=if p x=true then((r.rows.take k).filter p).map g++[g x] else((r.rows.take k).filter p).map g):=Hm (λp g=>by rw[ic HX.o,IV]);have bd:Hl (∀(p:Ent->Bool),(r.rows.take (k+1)).filter p=if p x=true then(r.rows.take k).filter p++[x] else(r.rows.take k).filter p):=Hm (λp=>by rw[ic HX.o,List.filter_append,List.filter_cons];cases p x<;>simp);have bb:=Hm λW h=>zU W P D X x.row h;obtain⟨T,hT⟩: ∃T,iD x.row=T:=⟨_,rfl⟩;have HT:=Hm hT;rw[hT]at bb ba;clear hT;obtain⟨⟨Q,d,j⟩,L5,x0,x1⟩:=aV.o _ K.o;go_wp2_with fail;refine(bb.o _ bV.o).mono ?_;rintro e H ⟨rfl,aL⟩;have ca:=Hm aL;have U:=Hm aL;clear aL;have a0:=Hm ca.o;have ar:=Hm (fH (fH (fH E.o N.o) K.o) U.o);have lk:=ac.o.look Tryz.underlying91 Tryz.underlying9 (λV=>Tryz.zeroValue43 V) ba.o (V:=H) ((fH (fH (fH E.o N.o) K.o) U.o).block _ ac.o.lt);obtain⟨Al,cl,bt,aT⟩:=(ac.o.own T).sl;rw[bt]at lk;obtain⟨ml,aO⟩: ∃m,(a T).length=m:=⟨_,rfl⟩;rw[aO]at lk aT;have a4:=Hm aO;have b5:=Hm aT;clear bt aO aT;have cE:=cr;have cD:=cj;have ce:A.length+1<=maxLen:=by simp only[maxLen];omega
   have cf:(A.length+1)*32<=140737488355328:=by omega
   have cg:z.length+1<=maxLen:=by simp only[maxLen];omega
   have ch:(z.length+1)*72<=140737488355328:=by omega
   by_cases aN:ml=0
   ·have O:(a (iD x.row)).isEmpty=true:=by rw[HT.o,List.isEmpty_iff];exact List.eq_nil_of_length_eq_zero (by rw[a4.o];exact aN)
    have au:Hl (A++[x]=(r.rows.take (k+1)).filter (λx=>(a (iD x.row)).isEmpty)):=Hm (by rw[bd.o,if_pos O,aD.o]);have av:Hl (z=((r.rows.take (k+1)).filter λx=>!(a (iD x.row)).isEmpty).map (λx=>⟨r.name,x.row,x.count,a (iD x.row)⟩)):=Hm (by rw[be.o,if_neg (by simp[O]),aA.o]);have aB:Hl (Rep.rd H (BS F.heap.size (λ_=>False) [36] H) [.slice P D X,.int .i64 x.count] x):=Hm ⟨P,D,X,rfl,uq aC.o ap.o (a2.o▸a0.o),a1.o⟩;have aX:=Hm (fH (fH N.o K.o) U.o);have al:=Hm (ay.o.below aX.o);have ak:=Hm (ax.o.below aX.o);subst aN;clear O;have bN:=Hm (fH K.o U.o);obtain⟨⟨Q,d,j⟩,L5,x0,x1⟩:=aV.o _ bN.o;go_wp2_with (at_builtin;refine gY _ rfl _ _ _ rfl xm (by decide) H _ rfl al.o rfl rfl x aB.o ce cf ?_;intro v9 w9 aj ah ai aK);all_goals(try(exfalso;go_light;simp_all;done));have aw:=Hm aj;have aq:=Hm (ar.o.trans ah);have az:=Hm (ak.o.besideT al.o (by decide) (by decide) ai);clear aj ah ai aK;go_wp2;all_goals(try(exfalso;go_light;simp_all;done));go_roundw
    case rel=>exact⟨k+1,A++[x],z,by omega,by go_num,au.o,av.o,by simp;omega,by omega,aw.o,az.o,aq.o⟩
    case measure=>simp[RowKit.intOf];omega
   ·have O:(a (iD x.row)).isEmpty=false:=by
     rw[HT.o];cases h:a T with
     |nil=>exact absurd (by rw[<-a4.o,h];rfl) aN
     |cons _ _=>rfl
    have au:Hl (A=(r.rows.take (k+1)).filter (λx=>(a (iD x.row)).isEmpty)):=Hm (by rw[bd.o,if_neg (by simp[O]),aD.o]);have av:Hl (z++[⟨r.name,x.row,x.count,a T⟩]=((r.rows.take (k+1)).filter λx=>!(a (iD x.row)).isEmpty).map (λx=>⟨r.name,x.row,x.count,a (iD x.row)⟩)):=Hm (by rw[be.o,if_pos (by simp[O]),aA.o,HT.o]);have b6:Hl (Sl H (BS F.heap.size (λ_=>True) [36] H) Al ml cl (a T)):=Hm ((Sl.keep (λk n=>ar.o.block k (n.lt (ac.o.own T).base)) b5.o).mono λk n=>.inl ⟨trivial,n.lt (ac.o.own T).base⟩);have aB:Hl (Rep.rd H (BS F.heap.size (λ_=>True) [36] H) [.string r.name,.slice P D X,.int .i64 x.count,.slice Al ml cl] (⟨r.name,x.row,x.count,a T⟩:Quar)):=Hm ⟨P,D,X,Al,ml,cl,rfl,(uq aC.o ap.o (a2.o▸a0.o)).mono (λk n=>by
     rcases n with ⟨n,_⟩|n
     ·exact n.elim
     ·exact .inr n),b6.o,b3.o,a1.o⟩
    have aY:=Hm (fH (fH N.o K.o) U.o);have al:=Hm (ay.o.below aY.o);have ak:=Hm (ax.o.below aY.o);have d0:(0:Int)<(ml:Int):=by omega
    clear O;have bO:=Hm (fH K.o U.o);obtain⟨⟨Q,d,j⟩,L5,x0,x1⟩:=aV.o _ bO.o;go_wp2_with (at_builtin;refine gY _ rfl _ _ _ rfl IG (by decide) H _ rfl ak.o rfl rfl (⟨r.name,x.row,x.count,a T⟩:Quar) aB.o cg ch ?_;intro v9 w9 aj ah ai aK);all_goals(try(exfalso;go_light;simp_all;done));have aw:=Hm aj;have aq:=Hm (ar.o.trans ah);have az:=Hm (al.o.besideT ak.o (by decide) (by decide) ai);clear aj ah ai aK;go_wp2;all_goals(try(exfalso;go_light;simp_all;done));go_roundw
    case rel=>exact⟨k+1,A,z++[⟨r.name,x.row,x.count,a T⟩],by omega,by go_num,au.o,av.o,by omega,by simp;omega,az.o,aw.o,aq.o⟩
    case measure=>simp[RowKit.intOf];omega
  ·have b7:Hl (r.rows.take k=r.rows):=Hm (List.take_of_length_le (by rw[a3.o];omega));obtain rfl:R=(0,A,z):=by rw[bS.o,aD.o,aA.o,b7.o]
   obtain⟨Ay,cy,rfl,bw⟩:=ay.o.inn;obtain⟨Aq,cq,rfl,bv⟩:=ax.o.inn;have bX:=Hm bw;have bW:=Hm bv;have bQ:=Hm (fH bR.o E.o);clear bw bv;obtain⟨Q,d,j⟩:=aU.o _ E.o;go_wp2
   go_ret3
   exact⟨⟨_,_,_,_,_,_,rfl,bX.o,bW.o⟩,bQ.o⟩
end Go.Proofs.YtopjjlmfilgngaaGreatDoor
