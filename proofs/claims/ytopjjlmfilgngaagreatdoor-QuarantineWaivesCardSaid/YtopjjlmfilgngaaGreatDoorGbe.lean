/-
  quarantine.violators: the names of the checks that each row violates. quarantine.Divide.
-/
import Derived.Deep.DeepCutAuto
import Derived.Deep.CutRange
import Derived.Test.YtopjjlmfilgngaaGreatDoorGbd
import Derived.Test.YtopjjlmfilgngaaGreatDoorGam
import Derived.Test.YtopjjlmfilgngaaGreatDoorGaf
import Derived.Test.YtopjjlmfilgngaaGreatDoorGaz
import Derived.Test.YtopjjlmfilgngaaGreatDoorGac
import Derived.Test.YtopjjlmfilgngaaGreatDoorGaq
namespace Go.Proofs.YtopjjlmfilgngaaGreatDoor
set_option maxHeartbeats 8000000
set_option maxRecDepth 100000
open Go.RowKit Go.Maps
set_option linter.unusedSimpArgs false
set_option linter.unusedVariables false
theorem Cf:Elem Tryz.prog 43 9 1 16:=ni (.string ⟨#[]⟩) Tryz.underlying43 (by kernel_rfl) rfl (by decide)
structure Kp (e b:Nat) (W1 Wi V:World):Prop where
 bel:Below W1.heap.size W1 V
 size:Wi.heap.size<=V.heap.size
 blk: ∀k,k<Wi.heap.size->k≠b->¬dm Wi e k->V.heap[k]?=Wi.heap[k]?
section
variable {e b g o:Nat}{W1 Wi V V':World}
theorem Kp.refl (h:Below W1.heap.size W1 Wi):Kp e b W1 Wi Wi:=⟨h,Nat.le_refl _,λ_ _ _ _=>rfl⟩
theorem Kp.below (h:Kp e b W1 Wi V)(hb:Below V.heap.size V V'):Kp e b W1 Wi V':=
 ⟨aa h.bel hb,Nat.le_trans h.size hb.size,λk h1 h2 h3=>(hb.block k (Nat.lt_of_lt_of_le h1 h.size)).trans (h.blk k h1 h2 h3)⟩
theorem Kp.own {row:Option Nat}(h:Kp e b W1 Wi V)(hg:V.grownBy V' row)(hr: ∀k,row=some k->W1.heap.size<=k/\(k=b\/dm V e k)):Kp e b W1 Wi V':=
 ⟨h.bel.grown hg h.bel.size λk q=>(hr k q).1,Nat.le_trans h.size hg.size,λk h1 h2 h3=>(hg.block k (Nat.lt_of_lt_of_le h1 h.size) λq=>by
  rcases (hr k q.symm).2 with q|⟨c,q⟩
  ·exact h2 q
  ·exact h3 ⟨c,(h.blk k h1 h2 h3)▸q⟩).trans (h.blk k h1 h2 h3)⟩
theorem Kp.cell (h:Kp e b W1 Wi V){v:Value}(hc:Wi.cell? ⟨g,o,none⟩=some v)(hg:g≠b)(ht:¬dm Wi e g):V.cell? ⟨g,o,none⟩=some v:=
 (World.cell?_of_block (a:=⟨g,o,none⟩) (h.blk g (lt_of_cell hc) hg ht)).trans hc
theorem Kp.sl {α:Type}[Rep α]{S:Nat->Prop}{A:Option Addr}{n c:Nat}{xs:List α}(h:Kp e b W1 Wi V)(hs:Sl Wi S A n c xs)(hS: ∀k,S k->k<Wi.heap.size/\k≠b/\¬dm Wi e k):In V A n c xs:=
 In.of_sl (Sl.keep (λk hk=>h.blk k (hS k hk).1 (hS k hk).2.1 (hS k hk).2.2) hs) λk hk=>Nat.lt_of_lt_of_le (hS k hk).1 h.size
end
theorem Sl.ent {w:World}{S:Nat->Prop}{A:Option Addr}{n c k:Nat}{xs:List Ent}(h:Sl w S A n c xs)(hk:k<n): ∃b off x,A=some ⟨b,off,none⟩/\S b/\Hid (xs.drop k=x :: xs.drop (k+1))/\
  ∃A' n' c',w.cell? ⟨b,off+k*2,none⟩=some (.slice A' n' c')/\w.cell? ⟨b,off+k*2+1,none⟩=some (.int .i64 x.count)/\Sl w S A' n' c' x.row/\eZ x.count:=by
 obtain ⟨b,off,e,hb,hi⟩:=h.2.2.2.2 (by omega);have hl:k<xs.length:=by rw[h.1];exact hk
 obtain ⟨cs,⟨A',n',c',rfl,hs,hv⟩,hc⟩:=hi k hl;exact ⟨b,off,xs[k],e,hb,List.drop_eq_getElem_cons hl,A',n',c',hc 0 (by simp),hc 1 (by simp),hs,hv⟩
def Db (P:Program)(K e:TypeId)(B b n:Nat)(f:ByteArray->Value)(F:ByteArray->List ByteArray)(T x:ByteArray)(V:World)(v:Value):Prop:=
 ∃V0,NMap P K e B V0 b n f F/\V0.grownBy V (f T).ownBlock/\OL e B (λ_=>False) [] V v (F T++[x])/\(v.ownBlock=(f T).ownBlock\/ ∃k,v.ownBlock=some k/\V0.heap.size<=k)
theorem Db.below {P:Program}{K e:TypeId}{B b n:Nat}{f:ByteArray->Value}{F:ByteArray->List ByteArray}{T x:ByteArray}{V V':World}{v:Value}(h:Db P K e B b n f F T x V v)(hb:Below V.heap.size V V'):Db P K e B b n f F T x V' v:=by
 obtain ⟨V0,h1,h2,h3,h4⟩:=h;exact ⟨V0,h1,h2.trans (Below.grows hb _),h3.below hb,h4⟩
theorem Kp.ty {e b t g:Nat}{W1 Wi V:World}(h:Kp e b W1 Wi V)(hc:dm Wi t g)(hg:g≠b)(ht:¬dm Wi e g):dm V t g:=by
 obtain ⟨c,q⟩:=hc;exact ⟨c,(h.blk g (dm.lt ⟨c,q⟩) hg ht).trans q⟩
def Ko {α:Type}[Rep α](e b:Nat)(V:World)(A:Option Addr)(n c:Nat)(xs:List α):Prop:=Sl V (λk=>k<V.heap.size/\k≠b/\¬dm V e k) A n c xs
section
variable {α:Type}[Rep α]{e b n c:Nat}{W1 Wi V V':World}{A:Option Addr}{xs:List α}
theorem Ko.inn (h:Ko e b V A n c xs):In V A n c xs:=In.of_sl h λk hk=>hk.1
theorem Ko.below (h:Ko e b V A n c xs)(hb:Below V.heap.size V V'):Ko e b V' A n c xs:=
 (Sl.keep (λk hk=>hb.block k hk.1) h).mono λk hk=>⟨Nat.lt_of_lt_of_le hk.1 hb.size,hk.2.1,λ⟨c,q⟩=>hk.2.2 ⟨c,(hb.block k hk.1)▸q⟩⟩
theorem Kp.ko {S:Nat->Prop}(h:Kp e b W1 Wi V)(hs:Sl Wi S A n c xs)(hS: ∀k,S k->k<Wi.heap.size/\k≠b/\¬dm Wi e k):Ko e b V A n c xs:=
 (Sl.keep (λk hk=>h.blk k (hS k hk).1 (hS k hk).2.1 (hS k hk).2.2) hs).mono λk hk=>⟨Nat.lt_of_lt_of_le (hS k hk).1 h.size,(hS k hk).2.1,λ⟨c,q⟩=>(hS k hk).2.2 ⟨c,(h.blk k (hS k hk).1 (hS k hk).2.1 (hS k hk).2.2)▸q⟩⟩
theorem Kp.ko2 (h:Kp e b W1 Wi V)(hs:Ko e b Wi A n c xs):Ko e b V A n c xs:=h.ko hs λ_ hk=>hk
theorem Kp.trans {V2:World}(h:Kp e b W1 Wi V)(h':Kp e b W1 V V2):Kp e b W1 Wi V2:=
 ⟨h'.bel,Nat.le_trans h.size h'.size,λk h1 h2 h3=>(h'.blk k (Nat.lt_of_lt_of_le h1 h.size) h2 λ⟨c,q⟩=>h3 ⟨c,(h.blk k h1 h2 h3)▸q⟩).trans (h.blk k h1 h2 h3)⟩
end
theorem TV {V:World}{g e:Nat}{v:Value}(h:V.heap[g]?=some (.cells #[v] e (0,0))):Src V 1 (some ⟨g,0,none⟩) 1 [v]:=
 ⟨rfl,λ_=>⟨g,0,rfl,λj u hu=>by
  rw[Nat.zero_add,cell_of_row V g j _ e (0,0) h];simpa using hu⟩⟩
structure R15 (B b m:Nat) (W1 Wr:World) (f:ByteArray->Value) (F:ByteArray->List ByteArray) (T nm:ByteArray) (gc gy:Nat) (Ay:Option Addr) (ny cy:Nat) (V:World) (v60 v61 v62 v63 v64 v65 v66 v67 v68 v69 v70 v71 v72:Value) (L:Nat->Bool):Prop where
 kp:Kp 9 b W1 Wr V
 f0:L 0=true->v60=.map (some b)
 f1:L 1=true->v61=.pointer (some ⟨gy,0,none⟩)
 f2:L 2=true->v62=.slice Ay ny cy
 f3:L 3=true->v63=.string T
 f4:L 4=true->v64=.map (some b)
 f5:L 5=true->v65=.pointer (some ⟨gy,0,none⟩)
 f6:L 6=true->v66=.slice Ay ny cy
 f7:L 7=true->v67=.string T
 f8:L 8=true->v68=f T
 f9:L 9=true->v69=.pointer (some ⟨gc,0,none⟩)
 f10:L 10=true->v70=.string nm
 f11:L 11=true-> ∃g,v71=.slice (some ⟨g,0,none⟩) 1 1/\(L 12=false->V.heap[g]?=some (.cells #[.string nm] 9 (0,0)))
 s0:L 12=false->NMap Tryz.prog 9 9 B V b m f F
 s1:L 12=true->L 13=false->Db Tryz.prog 9 9 B b m f F T nm V v72
 s2:L 13=true-> ∃f2,NMap Tryz.prog 9 9 B V b (m+1) f2 (λs=>if s=T then F T++[nm] else F s)
 o8:L 8=true->L 7=true
 o12:L 12=true->L 8=true/\L 11=true
 o13:L 13=true->L 12=true/\L 3=true/\L 7=true
def iF:Nat->List Nat
 | 2=>[1]
 | 3=>[2]
 | 6=>[5]
 | 7=>[6]
 | 8=>[4,7]
 | 10=>[9]
 | 11=>[10]
 | 12=>[8,11]
 | 13=>[0,3,12]
 | _=>[]
theorem BN (w:World)(r:Rel)(A1:Option Addr)(n1 c1:Nat)(hc:In w A1 n1 c1 r.columns)(Ak:Option Addr)(nk ck:Nat)(A3:Option Addr)(n3 c3:Nat)(hr:In w A3 n3 c3 r.rows)(Ac:Option Addr)(nc cc:Nat)(l:List Chk)(hl:In w Ac nc cc l)(Ao:Option Addr)(no co:Nat)(others:List Rel)(ho:In w Ao no co others)(Aw:Option Addr)(nw cw:Nat)(ws:List Wvr)(hws:In w Aw nw cw ws)(Az:Option Addr)(nz cz:Nat)(zs:List Zone)(hz:In w Az nz cz zs)(hw:Words w)(hb1:n1<=4096)(hb2:nc<=4096)(hb3: ∀c∈l,c.cols.length<=4096/\c.ocols.length<=4096)(hb4: ∀o∈others,o.columns.length<=4096):
  Calls Tryz.prog 33 #[.agg #[.string r.name,.slice A1 n1 c1,.slice Ak nk ck,.slice A3 n3 c3],.slice Ac nc cc,.slice Ao no co,.slice Aw nw cw,.slice Az nz cz] w
   λe w'=>(∃m,e=.returned (.tuple #[m,.int .i64 (qD r others zs l)])/\(qD r others zs l=0-> ∃b n f,m=.map (some b)/\NMap Tryz.prog 9 9 w.heap.size w' b n f (qE r others ws zs l)))/\Below w.heap.size w w':=by
 have hmm:=@run_makeMap Tryz.prog;have h63:=hl.le;have HLEN:=hide hl.len;have oG:Hid (∀c:Chk,(dY c others).2.columns.length<=4096):=hide (λc=>by
  rw[dY]
  split
  ·simp[zG]
  ·cases hf:others.find? (Im c.other) with
   |none=>simp[Cz,zG]
   |some r=>exact hb4 r (List.mem_of_find?_eq_some hf))
 have HB3:=hide hb3;have Ul:=hide λW x A n c A' n' c' aX n'' c'' hx=>FZ W x A n c A' n' c' aX n'' c'' Ao no co others hx;have HVI:=hide λW x A n c hn A' n' c' hn' aX n'' c'' hq hw h1 h2 on A2 n2 c2 ocols h3 Al nl cl A4 n4 c4 orows h4 h5 e1 e2 e3=>AC W x A n c hn A' n' c' hn' aX n'' c'' hq hw r.name A1 n1 c1 r.columns h1 Ak nk ck A3 n3 c3 r.rows h2 on A2 n2 c2 ocols h3 Al nl cl A4 n4 c4 orows h4 Az nz cz zs h5 e1 e2 hb1 e3;obtain ⟨E,hE⟩: ∃E,qD r others zs l=E:=⟨_,rfl⟩;have HE:=hide hE;rw[hE];clear hE hb3 hb4;simp only[aB]at Ul HVI;go_enter Tryz.func33,Tryz.ntmps33;have Zc:=hide hws;have HL:=hide hl;clear hl;have HO:=hide ho;clear ho;have LF:=hide hws;clear hws;have HZ:=hide hz;clear hz;have HW:=hide hw;clear hw;have HC:=hide hc;clear hc;have HR:=hide hr;clear hr;go_wp2_with fail;obtain ⟨W1,hW1⟩: ∃W,W=w.alloc (.cells #[.string r.name,.slice A1 n1 c1,.slice Ak nk ck,.slice A3 n3 c3] 29):=⟨_,rfl⟩;obtain ⟨hbW1,fZ,g0,g1,g2,g3⟩:=kr hW1 rfl;rw[<-hW1];clear hW1;have Zg:=hide hbW1;have lN:=hide hbW1;clear hbW1;have LR:=lt_of_cell g0;have UU:=hide Zg.out;have Gy:=hide (NMap.made Tryz.prog 9 9 W1 (B:=W1.heap.size) (Nat.le_refl _));have HB0:Hid (Below W1.heap.size W1 (W1.alloc (.map #[] 0))):=hide ae;have Xf:=hide (show (W1.alloc (.map #[] 0)).heap.size=W1.heap.size+1 from World.size_alloc _ _);rw[<-fZ.out];go_wp2;go_loopw [23] (λi wr=> ∃(k n:Nat) (f:ByteArray->Value) (F:ByteArray->List ByteArray),k<=nc/\i=.int .i64 k/\NMap Tryz.prog 9 9 W1.heap.size wr W1.heap.size n f F/\n<=k*4096/\(∀s,F s=qE r others ws zs (l.take k) s)/\(∀s,(F s).length<=k*4096)/\E=ai (λ_=>vG r others zs) k (l.drop k)/\Below W1.heap.size W1 wr/\W1.heap.size+1<=wr.heap.size) (λi _=>nc-(RowKit.intOf i).toNat)
 case atStart=>exact ⟨0,0,_,_,Nat.zero_le _,rfl,Gy.out,Nat.zero_le _,(λs=>by simp[qE]),(λs=>by simp),HE.out.symm,HB0.out,by rw[Xf.out];exact Nat.le_refl _⟩
 case round=>
  obtain ⟨k,n,f,F,hk,rfl,hnm,hn,hF,hFl,heq,hb,hsz⟩:=hrel;have HFE:=hide hF;have HFL:=hide hFl;have EA:=hide heq;have Sz:=hide hsz;clear hF hFl heq hsz;have o2:=sP g0 g1 g2 g3;have oF:=hide hb;clear hb;have PL:=hide hnm;clear hnm;have HWr:=hide oF.out;by_cases hlt:k<nc
  ·have BC4:=hide (aa lN.out oF.out);obtain ⟨bL,oL,x,rfl,hBb,HX,X9,XW,Zz,Ya,XX,ZA,Yb,nx3,ZB,⟨f0,f1,f2,f3,f4,f5,f6,f7,f8,f9,f10,f11,f12,f13⟩,i1,i2,i3,hok⟩:=(HL.out.below BC4.out).chk hlt;have k0:(0:Int)<=(k:Int):=by omega
   have k1:(k:Int)<(nc:Int):=by omega
   have C8:=hide hok;clear hok;have I1:=hide i1;clear i1;have I2:=hide i2;clear i2;have I3:=hide i3;clear i3;have U0:Hid (E=if vG r others zs x≠0 then vG r others zs x else ai (λ_=>vG r others zs) (k+1) (l.drop (k+1))):=hide (by rw[EA.out,HX.out,ai]);have Pd:Hid (vG r others zs x=if (dY x others).1≠0 then (dY x others).1 else (pF r others zs x).1):=hide rfl;obtain ⟨V,hV⟩: ∃V,vG r others zs x=V:=⟨_,rfl⟩;have hxm:=aH HX.out;obtain ⟨hx1,hx2⟩:=HB3.out x hxm;have hx1:XW<=4096:=by rw[<-I1.out.len];exact hx1
   have hx2:XX<=4096:=by rw[<-I2.out.len];exact hx2
   rw[hV]at U0 Pd;clear hV;obtain ⟨LR,g0,g1,g2,g3⟩:=o2.out _ oF.out;go_wp2_with fail;obtain ⟨W2,hW2⟩: ∃W,W=wr.alloc (.cells #[.string x.name,.string x.table,.int .i64 x.kind,.slice X9 XW Zz,.string x.other,.slice Ya XX ZA,.int .i64 x.low,.int .i64 x.high,.slice Yb nx3 ZB,.int .i64 x.ln,.int .i64 x.ld,.int .i64 x.mn,.int .i64 x.md,.int .i64 x.policy] 48):=⟨_,rfl⟩;obtain ⟨hbW2,JS,p0,p1,p2,p3,p4,p5,p6,p7,p8,p9,RQ,RS,RU,RX⟩:=bT hW2 rfl;have tO:Hid (dP W2 (wr.heap.size) 48 14):=hide (by rw[hW2];exact dP.made _ _ _ _ rfl);rw[<-hW2];clear hW2;have kL:=hide hbW2;clear hbW2;have LC:=lt_of_cell p0;have O5:=hide (aa oF.out kL.out);obtain ⟨LR,g0,g1,g2,g3⟩:=o2.out _ O5.out;go_wp2_with fail;have IZ:=hide (aa (aa lN.out oF.out) kL.out);refine (Ul.out _ x X9 XW Zz Ya XX ZA Yb nx3 ZB (HO.out.below IZ.out)).mono ?_;rintro e w6 ⟨⟨on,A2,n2,c2,Al,nl,cl,A4,n4,c4,rfl,hoc,hor⟩,hb6⟩;have o9:=Cw (sP g0 g1 g2 g3) (mr p0 p1 p2 p3 p4 p5 p6 p7 p8 p9 RQ RS RU RX);have fM:=hide hb6;clear hb6;obtain ⟨OS,ZN⟩: ∃q,dY x others=q:=⟨_,rfl⟩;have Xe:=hide ZN;have hoc2:n2<=4096:=by rw[<-hoc.len];exact oG.out x
   rw[ZN]at hoc hor Pd⊢;clear ZN;have BU:=hide hoc;clear hoc;have uC:=hide hor;clear hor;obtain ⟨e1,Q7⟩:=OS;by_cases he1:e1=0;rotate_left
   ·have q0:(e1 != 0)=true:=by simpa using he1
    have HR:Hid (E=e1):=hide (by rw[U0.out,Pd.out];simp[he1]);have oD:=hide (aa (aa (aa lN.out oF.out) kL.out) fM.out);obtain rfl:=HR.out;obtain ⟨⟨LR,g0,g1,g2,g3⟩,LC,p0,p1,p2,p3,p4,p5,p6,p7,p8,p9,RQ,RS,RU,RX⟩:=o9.out _ fM.out;go_wp2_with fail;all_goals (try (exfalso;go_light;simp_all;done));go_ret2;exact ⟨⟨_,rfl,λh=>absurd h he1⟩,oD.out.alloc oD.out.size _⟩
   subst he1;obtain ⟨⟨LR,g0,g1,g2,g3⟩,LC,p0,p1,p2,p3,p4,p5,p6,p7,p8,p9,RQ,RS,RU,RX⟩:=o9.out _ fM.out;go_wp2_with fail;all_goals (try (exfalso;go_light;simp_all;done));obtain ⟨W4,q9⟩: ∃W,W=w6.alloc (.cells #[.string on,.slice A2 n2 c2,.slice Al nl cl,.slice A4 n4 c4] 29):=⟨_,rfl⟩;obtain ⟨lF,tT,s0,s1,s2,s3⟩:=kr q9 rfl;rw[<-q9];clear q9;have kI:=hide lF;clear lF;have LO:=lt_of_cell s0;have Us:Hid (pF r others zs x=jZ x r.columns Q7.columns r.rows Q7.rows zs):=hide (by rw[pF,Xe.out]);have Vj:=hide (Lm (r:=r) (others:=others) (zs:=zs) (c:=x));have CV:=hide (aa fM.out kI.out);obtain ⟨⟨LR,g0,g1,g2,g3⟩,LC,p0,p1,p2,p3,p4,p5,p6,p7,p8,p9,RQ,RS,RU,RX⟩:=o9.out _ CV.out;go_wp2_with fail;have qM:=hide (aa (aa (aa (aa lN.out oF.out) kL.out) fM.out) kI.out);have RZ:=hide (aa (aa kL.out fM.out) kI.out);refine (HVI.out _ x X9 XW Zz (I1.out.below RZ.out) Ya XX ZA (I2.out.below RZ.out) Yb nx3 ZB (I3.out.below RZ.out) (HW.out.below qM.out) (HC.out.below qM.out) (HR.out.below qM.out) on A2 n2 c2 Q7.columns (BU.out.below kI.out) Al nl cl A4 n4 c4 Q7.rows (uC.out.below kI.out) (HZ.out.below qM.out) hx1 hx2 hoc2).mono ?_;rintro e X5 ⟨⟨bv,rfl,hol⟩,Dx⟩;have o16:=Cw (sP g0 g1 g2 g3) (Cw (mr p0 p1 p2 p3 p4 p5 p6 p7 p8 p9 RQ RS RU RX) (sP s0 s1 s2 s3));have Vp:=hide Dx;have j5:=hide Dx;clear Dx;rw[<-Us.out]at hol⊢;clear Us;obtain ⟨VO,ZT⟩: ∃q,pF r others zs x=q:=⟨_,rfl⟩;have Us:=hide ZT;rw[ZT]at hol Pd Vj⊢;clear ZT;obtain ⟨e2,bad⟩:=VO;by_cases he2:e2=0;rotate_left
   ·have q0:(e2 != 0)=true:=by simpa using he2
    have HR:Hid (E=e2):=hide (by rw[U0.out,Pd.out];simp[he2]);have oD:=hide (aa (aa (aa (aa (aa lN.out oF.out) kL.out) fM.out) kI.out) j5.out);obtain rfl:=HR.out;obtain ⟨⟨LR,g0,g1,g2,g3⟩,⟨LC,p0,p1,p2,p3,p4,p5,p6,p7,p8,p9,RQ,RS,RU,RX⟩,LO,s0,s1,s2,s3⟩:=o16.out _ j5.out;go_wp2;all_goals (try (exfalso;go_light;simp_all;done));go_ret2;exact ⟨⟨_,rfl,λh=>absurd h he2⟩,oD.out⟩
   subst he2;dsimp only at hol;have hbl:bad.length<=4096:=Vj.out rfl;have HEN:Hid (E=ai (λ_=>vG r others zs) (k+1) (l.drop (k+1))):=hide (by rw[U0.out,Pd.out];simp);obtain ⟨Ab,cb,hbv,hsl⟩:=hol.sl;obtain rfl:=hbv;obtain ⟨mb,hmb⟩: ∃m,bad.length=m:=⟨_,rfl⟩;rw[hmb]at hsl hbl⊢;have Rm:=hide hmb;have hbs:W1.heap.size+1<=W4.heap.size:=Nat.le_trans Sz.out (by have:=tT.out;have:=JS.out;have:=Vp.out.size;omega);have HSK:Hid (∀(V:World) k,BS W4.heap.size (λ_=>False) [50,36] V k->W4.heap.size<=V.heap.size->k<V.heap.size/\k≠W1.heap.size/\¬dm V 9 k):=hide (λV k h hV=>⟨h.lt hV,by
     rcases h with ⟨h,_⟩|⟨h,_⟩
     ·cases h
     ·omega,λq=>by
     rcases h with ⟨h,_⟩|⟨_,t,ht,h⟩
     ·exact h
     ·simp only[List.mem_cons,List.not_mem_nil,or_false]at ht;rcases ht with rfl|rfl
      ·exact dm.ne h q (by decide) rfl
      ·exact dm.ne h q (by decide) rfl⟩)
   have Be:=hide hol.base;have Kn:=Nat.le_trans hbs hol.base;have Uo:=hide hsl;clear hmb hsl hol U0 Pd Vj hbs;have LJ:=hide (aa (aa fM.out kI.out) j5.out);have htc:=(tO.out.below LJ.out).ty;have Yd:=hide (aa (aa (aa kL.out fM.out) kI.out) j5.out);have hnw:=(PL.out.below Yd.out);have hbw:=(aa (aa (aa (aa (aa lN.out oF.out) kL.out) fM.out) kI.out) j5.out);have hb1:=(aa (aa (aa (aa oF.out kL.out) fM.out) kI.out) j5.out);have Ye:=hide (aa (aa (aa (aa (aa lN.out oF.out) kL.out) fM.out) kI.out) j5.out);have hws:=(LF.out.below Ye.out);obtain ⟨Wi,hWi⟩: ∃W,W=X5:=⟨_,rfl⟩;obtain ⟨⟨LR,g0,g1,g2,g3⟩,⟨LC,p0,p1,p2,p3,p4,p5,p6,p7,p8,p9,RQ,RS,RU,RX⟩,LO,s0,s1,s2,s3⟩:=o16.out _ j5.out;rw[<-hWi]at htc hnw hbw hb1 hws Kn Be Uo p0⊢;clear hWi;have HTC:=hide htc;have HZW:=hide Kn;clear Kn;have LA:=hide hnw;have HBWi:=hide hbw;have HB1i:=hide hb1;have HWSi:=hide hws;have P0:=hide p0;have I6:Hid (wr.heap.size≠W1.heap.size/\¬dm Wi 9 wr.heap.size):=hide ⟨by have:=Sz.out;omega,λh=>dm.ne HTC.out h (by decide) rfl⟩;have YG:=hide (Kp.refl (e:=9) (b:=W1.heap.size) hb1);obtain ⟨wo,rfl⟩: ∃W,W=wr:=⟨_,rfl⟩;go_upto_region 11 with (fail);go_cut [47,48,49] from 24 to 46 (λs47 s48 s49 wx=>s47=.slice Ab mb cb/\s48=.int .i64 mb/\s49=.int .i64 0/\wx=Wi)
   case first=>
    go_wp2;go_meet
    case rel=>exact ⟨rfl,rfl,rfl,rfl⟩
   obtain ⟨rfl,rfl,rfl,hwx⟩:=hcut;obtain rfl:=hwx.symm;go_wp2;go_loopw [49] (λj wi=> ∃(q m:Nat) (f':ByteArray->Value) (F':ByteArray->List ByteArray),q<=mb/\j=.int .i64 q/\NMap Tryz.prog 9 9 W1.heap.size wi W1.heap.size m f' F'/\m<=n+q/\(∀s,F' s=F s++jP ws x (bad.take q) s)/\Kp 9 W1.heap.size W1 Wi wi) (λj _=>mb-(RowKit.intOf j).toNat)
   case atStart=>exact ⟨0,n,f,F,Nat.zero_le _,rfl,LA.out,by omega,(λs=>by simp[jP]),YG.out⟩
   case round=>
    obtain ⟨q,m,f',F',hq,rfl,hnm',hm,hF',hkp⟩:=hrel;have pI:=hide hkp;have Ud:=hide hF';have HXW:=hide (aa UU.out hkp.bel);clear hkp hF';obtain ⟨wi,rfl⟩: ∃W,W=wr:=⟨_,rfl⟩;have YM:=hide hnm';clear hnm';have Zb:=hide (Zc.out.below HXW.out);have hbi:=pI.out.bel;by_cases hlt2:q<mb
    ·obtain ⟨b9,o9,y,rfl,hSb,HY,Ay,ny,cy,u0,u1,u2,u3⟩:=Uo.out.ent hlt2;have j0:(0:Int)<=(q:Int):=by omega
     have j1:(q:Int)<(mb:Int):=by omega
     have uW:=HSK.out _ _ hSb Be.out;have r0:=pI.out.cell u0 uW.2.1 uW.2.2;have r1:=pI.out.cell u1 uW.2.1 uW.2.2;have hko:=pI.out.ko u2 (λk h=>HSK.out _ k h Be.out);have htw:=pI.out.ty HTC.out I6.out.1 I6.out.2;have hc0:=pI.out.cell P0.out I6.out.1 I6.out.2;clear u0 u1 u2 hSb uW;have Zf:=lt_of_cell hc0;have Uh:=hide hko;clear hko;have HTW:=hide htw;clear htw;have hwj:=Zb.out;have HWJ:=hide hwj;clear hwj;go_wp2_with fail;obtain ⟨W9,XT⟩: ∃W,W=wi.alloc (.cells #[.slice Ay ny cy,.int .i64 y.count] 50):=⟨_,rfl⟩;obtain ⟨Wj,SZW9,y0,y1⟩:=Dj XT rfl;have Zn:Hid (dP W9 (wi.heap.size) 50 2):=hide (by rw[XT];exact dP.made _ _ _ _ rfl);rw[<-XT];clear XT;have xM:=pW hc0;have gZ:=hide Wj;clear Wj;have LY:=lt_of_cell y0;obtain ⟨Zf,hc0⟩:=xM.out _ gZ.out;go_wp2_with fail;refine (IV _ Aw nw cw ws (HWJ.out.below gZ.out) x.name Ay ny cy y.row (Uh.out.below gZ.out).inn).mono ?_;rintro e w23 ⟨rfl,Fw⟩;have UJ:=Cw (pW hc0) (MP y0 y1);have lV:=hide Fw;clear Fw;have CY:=hide (aa gZ.out lV.out);cases hv:dG ws x.name y.row;rotate_left
     ·have Xd:Hid (∀s,F' s=F s++jP ws x (bad.take (q+1)) s):=hide (λs=>by rw[Ud.out s,bg HY.out,xw,if_neg (by simp[hv])]);have yo:=hide (aa gZ.out lV.out);have gU:=hide (YM.out.below yo.out);obtain ⟨⟨Zf,hc0⟩,LY,y0,y1⟩:=UJ.out _ lV.out;go_wp2;all_goals (try (exfalso;go_light;simp_all;done));go_roundw
      case rel=>exact ⟨q+1,m,f',F',by omega,by go_num,gU.out,by omega,Xd.out,pI.out.below CY.out⟩
      case measure=>simp[RowKit.intOf];omega
     ·have Gp:=hide (mU y.row);have HXN:Hid (Str x.name):=hide C8.out.1;have Uq:=hide λW h=>Ae W Ay ny cy y.row h;have Xd:Hid (∀s,(if s=bE y.row then F' (bE y.row)++[x.name] else F' s)=F s++jP ws x (bad.take (q+1)) s):=hide (λs=>by
       rw[bg HY.out,xw];by_cases hs:s=bE y.row
       ·rw[if_pos hs,if_pos ⟨hs.symm,hv⟩,Ud.out,hs,List.append_assoc]
       ·rw[if_neg hs,if_neg λh=>hs h.1.symm,Ud.out])
      obtain ⟨T,hT⟩: ∃T,bE y.row=T:=⟨_,rfl⟩;rw[hT]at Gp Uq Xd;clear hT;obtain ⟨⟨Zf,hc0⟩,LY,y0,y1⟩:=UJ.out _ lV.out;go_upto_region 15 with (fail);have R6:=hide (aa gZ.out lV.out);have hnr:=(YM.out.below R6.out);have hkr:=(Uh.out.below R6.out);have htr:=(HTW.out.below R6.out);have UF:=(Zn.out.below lV.out).ty;have hpr:=pI.out.below CY.out;obtain ⟨Wr,hWr⟩: ∃W,W=w23:=⟨_,rfl⟩;rw[<-hWr]at hnr hkr htr UF hpr y0 hc0⊢;clear hWr;have HNR:=hide hnr;have PK:=hide hkr;have HPR:=hide hpr;have Y0:=hide y0;have C0:=hide hc0;have HZI:Hid (W1.heap.size+1<=wi.heap.size):=hide (Nat.le_trans HZW.out pI.out.size);have Xj:Hid (wi.heap.size≠W1.heap.size/\¬dm Wr 9 wi.heap.size):=hide ⟨by have:=HZI.out;omega,λh=>dm.ne UF h (by decide) rfl⟩;have WZ:Hid (wo.heap.size≠W1.heap.size/\¬dm Wr 9 wo.heap.size):=hide ⟨I6.out.1,λh=>dm.ne htr h (by decide) rfl⟩;have Uk:Hid (m<maxLen/\(F' T).length+1<=maxLen/\((F' T).length+1)*16<=140737488355328):=hide (by
       have h1:=HFL.out T;have h2:=zD ws x (bad.take q) T;have h3:=congrArg List.length (Ud.out T);rw[List.length_append]at h3;have h4:(bad.take q).length<=q:=by rw[List.length_take];omega
       simp only[maxLen];omega)
      clear hnr hkr htr UF hpr y0 hc0 y1;refine rX (by kernel_rfl) iF (by kernel_rfl) (λL a V=> ∃v60 v61 v62 v63 v64 v65 v66 v67 v68 v69 v70 v71 v72,a=⟨#[.agg #[.string r.name,.slice A1 n1 c1,.slice Ak nk ck,.slice A3 n3 c3],.slice (some ⟨bL,oL,none⟩) nc cc,.slice Ao no co,.slice Aw nw cw,.slice Az nz cz,.pointer (some ⟨w.heap.size,0,none⟩),undef,undef,undef,undef,u10,u11,.map (some W1.heap.size),undef,.pointer (some ⟨wo.heap.size,0,none⟩),.pointer (some ⟨w6.heap.size,0,none⟩),.int .i64 0,.slice (some ⟨b9,o9,none⟩) mb cb,undef,.pointer (some ⟨wi.heap.size,0,none⟩),.map (some W1.heap.size),.slice (some ⟨bL,oL,none⟩) nc cc,.int .i64 ↑nc,.int .i64 ↑k,u24,u25,u26,u27,u28,u29,u30,u31,u32,u33,u34,u35,u36,u37,u38,u39,u40,u41,u42,u43,u44,u45,u46,.slice (some ⟨b9,o9,none⟩) mb cb,.int .i64 ↑mb,.int .i64 ↑q,.bool true,.pointer (some ⟨b9,o9+q*2,none⟩),.agg #[.slice Ay ny cy,.int .i64 y.count],.slice Aw nw cw,.pointer (some ⟨wo.heap.size,0,none⟩),.string x.name,.pointer (some ⟨wi.heap.size,0,none⟩),.slice Ay ny cy,.bool false,.bool true,v60,v61,v62,v63,v64,v65,v66,v67,v68,v69,v70,v71,v72,u73,u74,undef],[]⟩/\R15 W1.heap.size W1.heap.size m W1 Wr f' F' T x.name wo.heap.size wi.heap.size Ay ny cy V v60 v61 v62 v63 v64 v65 v66 v67 v68 v69 v70 v71 v72 L) ?_ ?_ ?_
      ·exact ⟨_,_,_,_,_,_,_,_,_,_,_,_,_,rfl,{kp:=(Kp.refl HPR.out.bel).below (Below.refl _ _).drew,f0:=(λq=>by cases q),f1:=(λq=>by cases q),f2:=(λq=>by cases q),f3:=(λq=>by cases q),f4:=(λq=>by cases q),f5:=(λq=>by cases q),f6:=(λq=>by cases q),f7:=(λq=>by cases q),f8:=(λq=>by cases q),f9:=(λq=>by cases q),f10:=(λq=>by cases q),f11:=(λq=>by cases q),s0:=(λ_=>HNR.out.below (Below.refl _ _).drew),s1:=(λq=>by cases q),s2:=(λq=>by cases q),o8:=(λq=>by cases q),o12:=(λq=>by cases q),o13:=(λq=>by cases q)}⟩
      ·intro L i a V hi hL hd hI;obtain ⟨v60,v61,v62,v63,v64,v65,v66,v67,v68,v69,v70,v71,v72,rfl,hI⟩:=hI;have hi:i<14:=hi;have HI:=hide hI;have HD:=hide hd;have qV:=hide hL;clear hI hd hL;obtain rfl|rfl|rfl|rfl|rfl|rfl|rfl|rfl|rfl|rfl|rfl|rfl|rfl|rfl:i=0\/i=1\/i=2\/i=3\/i=4\/i=5\/i=6\/i=7\/i=8\/i=9\/i=10\/i=11\/i=12\/i=13:=by omega
       ·refine wpOp_step rfl (λK1 hK=>?_);have HK:=hide hK;clear hK;go_simp;exact HK.out _ _ ⟨_,_,_,_,_,_,_,_,_,_,_,_,_,rfl,{kp:=HI.out.kp,f0:=(λ_=>rfl),f1:=HI.out.f1,f2:=HI.out.f2,f3:=HI.out.f3,f4:=HI.out.f4,f5:=HI.out.f5,f6:=HI.out.f6,f7:=HI.out.f7,f8:=HI.out.f8,f9:=HI.out.f9,f10:=HI.out.f10,f11:=HI.out.f11,s0:=HI.out.s0,s1:=HI.out.s1,s2:=HI.out.s2,o8:=HI.out.o8,o12:=HI.out.o12,o13:=HI.out.o13}⟩
       ·refine wpOp_step rfl (λK1 hK=>?_);have HK:=hide hK;clear hK;go_simp;exact HK.out _ _ ⟨_,_,_,_,_,_,_,_,_,_,_,_,_,rfl,{kp:=HI.out.kp,f0:=HI.out.f0,f1:=(λ_=>rfl),f2:=HI.out.f2,f3:=HI.out.f3,f4:=HI.out.f4,f5:=HI.out.f5,f6:=HI.out.f6,f7:=HI.out.f7,f8:=HI.out.f8,f9:=HI.out.f9,f10:=HI.out.f10,f11:=HI.out.f11,s0:=HI.out.s0,s1:=HI.out.s1,s2:=HI.out.s2,o8:=HI.out.o8,o12:=HI.out.o12,o13:=HI.out.o13}⟩
       ·obtain rfl:=HI.out.f1 (HD.out 1 (by simp[iF]));have c0:=HI.out.kp.cell Y0.out Xj.out.1 Xj.out.2;refine wpOp_step rfl (λK1 hK=>?_);have HK:=hide hK;clear hK;go_simp;exact HK.out _ _ ⟨_,_,_,_,_,_,_,_,_,_,_,_,_,rfl,{kp:=HI.out.kp,f0:=HI.out.f0,f1:=HI.out.f1,f2:=(λ_=>rfl),f3:=HI.out.f3,f4:=HI.out.f4,f5:=HI.out.f5,f6:=HI.out.f6,f7:=HI.out.f7,f8:=HI.out.f8,f9:=HI.out.f9,f10:=HI.out.f10,f11:=HI.out.f11,s0:=HI.out.s0,s1:=HI.out.s1,s2:=HI.out.s2,o8:=HI.out.o8,o12:=HI.out.o12,o13:=HI.out.o13}⟩
       ·obtain rfl:=HI.out.f2 (HD.out 2 (by simp[iF]));refine wpOp_step rfl (λK1 hK=>?_);have HK:=hide hK;clear hK;go_simp;go_at_call 38;refine (Uq.out _ (HI.out.kp.ko2 PK.out).inn).mono ?_;rintro e w1 ⟨rfl,hb⟩;have HB:=hide hb;clear hb;go_wp2_with fail;exact HK.out _ _ ⟨_,_,_,_,_,_,_,_,_,_,_,_,_,rfl,{kp:=HI.out.kp.below HB.out,f0:=HI.out.f0,f1:=HI.out.f1,f2:=HI.out.f2,f3:=(λ_=>rfl),f4:=HI.out.f4,f5:=HI.out.f5,f6:=HI.out.f6,f7:=HI.out.f7,f8:=HI.out.f8,f9:=HI.out.f9,f10:=HI.out.f10,f11:=(λh=>by obtain ⟨g,e1,q1⟩:=HI.out.f11 h;exact ⟨g,e1,λz=>(HB.out.block g (Array.getElem?_eq_some_iff.1 (q1 z)).1).trans (q1 z)⟩),s0:=(λh=>(HI.out.s0 h).below HB.out),s1:=(λh h1=>(HI.out.s1 h h1).below HB.out),s2:=(λh=>absurd (HI.out.o13 h).2.1 (by rw[qV.out];decide)),o8:=HI.out.o8,o12:=HI.out.o12,o13:=(λh=>by obtain ⟨a1,a2,a3⟩:=HI.out.o13 h;exact ⟨a1,rfl,a3⟩)}⟩
       ·refine wpOp_step rfl (λK1 hK=>?_);have HK:=hide hK;clear hK;go_simp;exact HK.out _ _ ⟨_,_,_,_,_,_,_,_,_,_,_,_,_,rfl,{kp:=HI.out.kp,f0:=HI.out.f0,f1:=HI.out.f1,f2:=HI.out.f2,f3:=HI.out.f3,f4:=(λ_=>rfl),f5:=HI.out.f5,f6:=HI.out.f6,f7:=HI.out.f7,f8:=HI.out.f8,f9:=HI.out.f9,f10:=HI.out.f10,f11:=HI.out.f11,s0:=HI.out.s0,s1:=HI.out.s1,s2:=HI.out.s2,o8:=HI.out.o8,o12:=HI.out.o12,o13:=HI.out.o13}⟩
       ·refine wpOp_step rfl (λK1 hK=>?_);have HK:=hide hK;clear hK;go_simp;exact HK.out _ _ ⟨_,_,_,_,_,_,_,_,_,_,_,_,_,rfl,{kp:=HI.out.kp,f0:=HI.out.f0,f1:=HI.out.f1,f2:=HI.out.f2,f3:=HI.out.f3,f4:=HI.out.f4,f5:=(λ_=>rfl),f6:=HI.out.f6,f7:=HI.out.f7,f8:=HI.out.f8,f9:=HI.out.f9,f10:=HI.out.f10,f11:=HI.out.f11,s0:=HI.out.s0,s1:=HI.out.s1,s2:=HI.out.s2,o8:=HI.out.o8,o12:=HI.out.o12,o13:=HI.out.o13}⟩
       ·obtain rfl:=HI.out.f5 (HD.out 5 (by simp[iF]));have c0:=HI.out.kp.cell Y0.out Xj.out.1 Xj.out.2;refine wpOp_step rfl (λK1 hK=>?_);have HK:=hide hK;clear hK;go_simp;exact HK.out _ _ ⟨_,_,_,_,_,_,_,_,_,_,_,_,_,rfl,{kp:=HI.out.kp,f0:=HI.out.f0,f1:=HI.out.f1,f2:=HI.out.f2,f3:=HI.out.f3,f4:=HI.out.f4,f5:=HI.out.f5,f6:=(λ_=>rfl),f7:=HI.out.f7,f8:=HI.out.f8,f9:=HI.out.f9,f10:=HI.out.f10,f11:=HI.out.f11,s0:=HI.out.s0,s1:=HI.out.s1,s2:=HI.out.s2,o8:=HI.out.o8,o12:=HI.out.o12,o13:=HI.out.o13}⟩
       ·obtain rfl:=HI.out.f6 (HD.out 6 (by simp[iF]));refine wpOp_step rfl (λK1 hK=>?_);have HK:=hide hK;clear hK;go_simp;go_at_call 38;refine (Uq.out _ (HI.out.kp.ko2 PK.out).inn).mono ?_;rintro e w1 ⟨rfl,hb⟩;have HB:=hide hb;clear hb;go_wp2_with fail;exact HK.out _ _ ⟨_,_,_,_,_,_,_,_,_,_,_,_,_,rfl,{kp:=HI.out.kp.below HB.out,f0:=HI.out.f0,f1:=HI.out.f1,f2:=HI.out.f2,f3:=HI.out.f3,f4:=HI.out.f4,f5:=HI.out.f5,f6:=HI.out.f6,f7:=(λ_=>rfl),f8:=HI.out.f8,f9:=HI.out.f9,f10:=HI.out.f10,f11:=(λh=>by obtain ⟨g,e1,q1⟩:=HI.out.f11 h;exact ⟨g,e1,λz=>(HB.out.block g (Array.getElem?_eq_some_iff.1 (q1 z)).1).trans (q1 z)⟩),s0:=(λh=>(HI.out.s0 h).below HB.out),s1:=(λh h1=>(HI.out.s1 h h1).below HB.out),s2:=(λh=>absurd (HI.out.o13 h).2.2 (by rw[qV.out];decide)),o8:=(λ_=>rfl),o12:=HI.out.o12,o13:=(λh=>by obtain ⟨a1,a2,a3⟩:=HI.out.o13 h;exact ⟨a1,a2,rfl⟩)}⟩
       ·obtain rfl:=HI.out.f4 (HD.out 4 (by simp[iF]));obtain rfl:=HI.out.f7 (HD.out 7 (by simp[iF]));have Pi:L 12=false:=Bool.eq_false_iff.2 λh=>absurd (HI.out.o12 h).1 (by rw[qV.out];decide);have lk:=(HI.out.s0 Pi).look Tryz.underlying91 Tryz.underlying9 (λV=>Tryz.zeroValue43 V) Gp.out (V:=V) rfl;refine wpOp_step rfl (λK1 hK=>?_);have HK:=hide hK;clear hK;go_simp;exact HK.out _ _ ⟨_,_,_,_,_,_,_,_,_,_,_,_,_,rfl,{kp:=HI.out.kp,f0:=HI.out.f0,f1:=HI.out.f1,f2:=HI.out.f2,f3:=HI.out.f3,f4:=HI.out.f4,f5:=HI.out.f5,f6:=HI.out.f6,f7:=HI.out.f7,f8:=(λ_=>rfl),f9:=HI.out.f9,f10:=HI.out.f10,f11:=HI.out.f11,s0:=HI.out.s0,s1:=HI.out.s1,s2:=HI.out.s2,o8:=(λ_=>HD.out 7 (by simp[iF])),o12:=(λh=>⟨rfl,(HI.out.o12 h).2⟩),o13:=HI.out.o13}⟩
       ·refine wpOp_step rfl (λK1 hK=>?_);have HK:=hide hK;clear hK;go_simp;exact HK.out _ _ ⟨_,_,_,_,_,_,_,_,_,_,_,_,_,rfl,{kp:=HI.out.kp,f0:=HI.out.f0,f1:=HI.out.f1,f2:=HI.out.f2,f3:=HI.out.f3,f4:=HI.out.f4,f5:=HI.out.f5,f6:=HI.out.f6,f7:=HI.out.f7,f8:=HI.out.f8,f9:=(λ_=>rfl),f10:=HI.out.f10,f11:=HI.out.f11,s0:=HI.out.s0,s1:=HI.out.s1,s2:=HI.out.s2,o8:=HI.out.o8,o12:=HI.out.o12,o13:=HI.out.o13}⟩
       ·obtain rfl:=HI.out.f9 (HD.out 9 (by simp[iF]));have c0:=HI.out.kp.cell C0.out WZ.out.1 WZ.out.2;refine wpOp_step rfl (λK1 hK=>?_);have HK:=hide hK;clear hK;go_simp;exact HK.out _ _ ⟨_,_,_,_,_,_,_,_,_,_,_,_,_,rfl,{kp:=HI.out.kp,f0:=HI.out.f0,f1:=HI.out.f1,f2:=HI.out.f2,f3:=HI.out.f3,f4:=HI.out.f4,f5:=HI.out.f5,f6:=HI.out.f6,f7:=HI.out.f7,f8:=HI.out.f8,f9:=HI.out.f9,f10:=(λ_=>rfl),f11:=HI.out.f11,s0:=HI.out.s0,s1:=HI.out.s1,s2:=HI.out.s2,o8:=HI.out.o8,o12:=HI.out.o12,o13:=HI.out.o13}⟩
       ·obtain rfl:=HI.out.f10 (HD.out 10 (by simp[iF]));have Pi:L 12=false:=Bool.eq_false_iff.2 λh=>absurd (HI.out.o12 h).2 (by rw[qV.out];decide);refine wpOp_step rfl (λK1 hK=>?_);have HK:=hide hK;clear hK;go_simp;exact HK.out _ _ ⟨_,_,_,_,_,_,_,_,_,_,_,_,_,rfl,{kp:=HI.out.kp.below ae,f0:=HI.out.f0,f1:=HI.out.f1,f2:=HI.out.f2,f3:=HI.out.f3,f4:=HI.out.f4,f5:=HI.out.f5,f6:=HI.out.f6,f7:=HI.out.f7,f8:=HI.out.f8,f9:=HI.out.f9,f10:=HI.out.f10,f11:=(λ_=>⟨_,rfl,λ_=>heap_alloc_new _ _⟩),s0:=(λh=>(HI.out.s0 h).below ae),s1:=(λh=>absurd h (by rw[Pi];decide)),s2:=(λh=>absurd (HI.out.o13 h).1 (by rw[Pi];decide)),o8:=HI.out.o8,o12:=(λh=>⟨(HI.out.o12 h).1,rfl⟩),o13:=HI.out.o13}⟩
       ·obtain rfl:=HI.out.f8 (HD.out 8 (by simp[iF]));obtain ⟨g,rfl,hg⟩:=HI.out.f11 (HD.out 11 (by simp[iF]));have HG:=hide (hg qV.out);have CZ:=hide (HI.out.s0 qV.out);clear hg;refine wpOp_step rfl (λK1 hK=>?_);have HK:=hide hK;clear hK;refine rT V rfl _ _ _ rfl Cf (by simp) (CZ.out.own T) (by simp[Act.eval,Act.put]) (some ⟨g,0,none⟩) 1 1 [.string x.name] [x.name] (by simp[Act.eval,Act.put]) (by intro h;cases h) (TV HG.out) (Cells.one ⟨rfl,HXN.out⟩) rfl Uk.out.2.1 Uk.out.2.2 ?_;intro v9 w9 oQ fK qR kJ;have qG:=hide oQ;have vP:=hide qR;have HAT:=hide kJ;clear oQ fK qR kJ;exact HK.out _ _ ⟨_,_,_,_,_,_,_,_,_,_,_,_,_,rfl,{kp:=HI.out.kp.own vP.out (λk h=>⟨((CZ.out.own T).ty h).1,.inr ((CZ.out.own T).ty h).2⟩),f0:=HI.out.f0,f1:=HI.out.f1,f2:=HI.out.f2,f3:=HI.out.f3,f4:=HI.out.f4,f5:=HI.out.f5,f6:=HI.out.f6,f7:=HI.out.f7,f8:=HI.out.f8,f9:=HI.out.f9,f10:=HI.out.f10,f11:=(λ_=>⟨g,rfl,λh=>absurd h (by simp)⟩),s0:=(λh=>absurd h (by simp)),s1:=(λ_ _=>⟨V,CZ.out,vP.out,qG.out,HAT.out.imp id λh=>⟨_,h,Nat.le_refl _⟩⟩),s2:=(λh=>absurd (HI.out.o13 h).1 (by rw[qV.out];decide)),o8:=HI.out.o8,o12:=(λ_=>⟨HD.out 8 (by simp[iF]),HD.out 11 (by simp[iF])⟩),o13:=(λh=>absurd (HI.out.o13 h).1 (by rw[qV.out];decide))}⟩
       ·obtain rfl:=HI.out.f0 (HD.out 0 (by simp[iF]));obtain rfl:=HI.out.f3 (HD.out 3 (by simp[iF]));have Pi:=HD.out 12 (by simp[iF]);obtain ⟨V0,hn0,hg0,ho0,Kk⟩:=HI.out.s1 Pi qV.out;obtain ⟨w7,hrun,hn7,Wu⟩:=hn0.push Tryz.underlying91 Tryz.underlying9 Gp.out Uk.out.1 hg0 ho0 Kk;have HN7:=hide hn7;have HG7:=hide Wu;clear hn0 hg0 ho0 Kk hn7 Wu;refine wpOp_step rfl (λK1 hK=>?_);have HK:=hide hK;clear hK;go_simp;exact HK.out _ _ ⟨_,_,_,_,_,_,_,_,_,_,_,_,_,rfl,{kp:=HI.out.kp.own HG7.out (λk h=>by injection h with h;subst h;exact ⟨Nat.le_refl _,.inl rfl⟩),f0:=HI.out.f0,f1:=HI.out.f1,f2:=HI.out.f2,f3:=HI.out.f3,f4:=HI.out.f4,f5:=HI.out.f5,f6:=HI.out.f6,f7:=HI.out.f7,f8:=HI.out.f8,f9:=HI.out.f9,f10:=HI.out.f10,f11:=(λh=>by obtain ⟨g,e1,q1⟩:=HI.out.f11 h;exact ⟨g,e1,λz=>absurd z (by rw[Pi];decide)⟩),s0:=(λh=>absurd h (by rw[Pi];decide)),s1:=(λ_ h=>absurd h (by simp)),s2:=(λ_=>⟨_,HN7.out⟩),o8:=HI.out.o8,o12:=HI.out.o12,o13:=(λ_=>⟨Pi,HD.out 3 (by simp[iF]),HI.out.o8 (HI.out.o12 Pi).1⟩)}⟩
      ·intro L a V hL hI;obtain ⟨v60,v61,v62,v63,v64,v65,v66,v67,v68,v69,v70,v71,v72,rfl,hI⟩:=hI;obtain ⟨f2,h2⟩:=hI.s2 (hL 13 (by show 13<14;omega));have fD:=hide h2;have vK:=hide (HPR.out.trans hI.kp);clear h2 hI hL;go_wp2;go_roundw
       case rel=>exact ⟨q+1,m+1,f2,_,by omega,by go_num,fD.out,by omega,Xd.out,vK.out⟩
       case measure=>simp[RowKit.intOf];omega
    ·have HFT:Hid (∀s,F' s=qE r others ws zs (l.take (k+1)) s):=hide (λs=>by
      rw[Ud.out s,List.take_of_length_le (by rw[Rm.out];omega),HFE.out s,bg HX.out,Lp,Us.out])
     have HFK:Hid (∀s,(F' s).length<=(k+1)*4096):=hide (λs=>by
      rw[Ud.out s,List.length_append,List.take_of_length_le (by rw[Rm.out];omega)];have h1:=HFL.out s;have h2:=zD ws x bad s;have h3:=Rm.out;omega)
     have gU:=hide YM.out;have hzz:W1.heap.size+1<=wi.heap.size:=Nat.le_trans HZW.out pI.out.size;go_wp2;go_roundw
     case rel=>exact ⟨k+1,m,f',F',by omega,by go_num,gU.out,by omega,HFT.out,HFK.out,HEN.out,hbi,hzz⟩
     case measure=>simp[RowKit.intOf];omega
  ·obtain rfl:E=0:=by rw[EA.out,List.drop_eq_nil_of_le (by rw[HLEN.out];omega)];rfl
   have HNT:Hid (∀s,F s=qE r others ws zs l s):=hide (λs=>by rw[HFE.out s,List.take_of_length_le (by rw[HLEN.out];omega)]);have gU:=hide PL.out;have oD:=hide (aa lN.out oF.out);obtain ⟨LR,g0,g1,g2,g3⟩:=o2.out _ oF.out;go_wp2;go_ret2;exact ⟨⟨_,rfl,_,rfl,n,f,(gU.out.congr HNT.out).rebase UU.out.size⟩,oD.out⟩
theorem J9:Elem Tryz.prog 51 57 4 72:=ni (.agg #[.string ⟨#[]⟩,.slice none 0 0,.int .i64 0,.slice none 0 0]) Tryz.underlying51 (by kernel_rfl) rfl (by decide)
theorem rQ {α:Type}[Rep α]{w w':World}{B n c:Nat}{O:Nat->Prop}{T:List TypeId}{A:Option Addr}{xs:List α}(hs:Sl w (BS B O T w) A n c xs)(hB:B<=w.heap.size)(hb:Below w.heap.size w w'):Sl w' (BS B O T w') A n c xs:=
 (Sl.keep (λk hk=>hb.block k (hk.lt hB)) hs).mono λk hk=>hk.below hB hb
theorem OL.besideT {α β:Type}[Rep α][Rep β]{e e':TypeId}{B:Nat}{O O':Nat->Prop}{T T':List TypeId}{w w1:World}{a b:Value}{xs:List α}{ys:List β}(hb:OL e' B O T w b ys)(ha:OL e B O' T' w a xs)(hne:e≠e')(hT:e∉T)(hg:w.grownBy w1 a.ownBlock):OL e' B O T w1 b ys:=
 hb.grown hg λk hk=>⟨λq=>dm.ne (ha.ty hk).2 (hb.ty q).2 hne rfl,λq=>by
  have h1:=ha.ty hk;rcases q with ⟨_,q⟩|⟨_,t,ht,q⟩
  ·omega
  ·exact dm.ne h1.2 q (λe1=>hT (e1▸ht)) rfl⟩
theorem Kh {α β:Type}(p:α->Bool)(g:α->β)(l:List α)(x:α):((l++[x]).filter p).map g=if p x=true then (l.filter p).map g++[g x] else (l.filter p).map g:=by
 rw[List.filter_append,List.filter_cons];cases p x <;> simp
theorem yO (w:World)(r:Rel)(A1:Option Addr)(n1 c1:Nat)(hc:In w A1 n1 c1 r.columns)(Ak:Option Addr)(nk ck:Nat)(A3:Option Addr)(n3 c3:Nat)(hr:In w A3 n3 c3 r.rows)(Ac:Option Addr)(nc cc:Nat)(l:List Chk)(hl:In w Ac nc cc l)(Ao:Option Addr)(no co:Nat)(others:List Rel)(ho:In w Ao no co others)(Aw:Option Addr)(nw cw:Nat)(ws:List Wvr)(hws:In w Aw nw cw ws)(Az:Option Addr)(nz cz:Nat)(zs:List Zone)(hz:In w Az nz cz zs)(hw:Words w)(hb1:n1<=4096)(hb2:nc<=4096)(hb3: ∀c∈l,c.cols.length<=4096/\c.ocols.length<=4096)(hb4: ∀o∈others,o.columns.length<=4096)(hrn:Str r.name):
  Calls Tryz.prog 14 #[.agg #[.string r.name,.slice A1 n1 c1,.slice Ak nk ck,.slice A3 n3 c3],.slice Ac nc cc,.slice Ao no co,.slice Aw nw cw,.slice Az nz cz] w
   λe w'=>(∃A7 m7 c7 A8 m8 c8,e=.returned (.tuple #[.slice A7 m7 c7,.slice A8 m8 c8,.int .i64 (Bj r l others ws zs).1])/\In w' A7 m7 c7 (Bj r l others ws zs).2.1/\In w' A8 m8 c8 (Bj r l others ws zs).2.2)/\Below w.heap.size w w':=by
 have Us:=hide λW Ac nc cc L hL e1 e2 h1 h2 h3 h4 h5 h6=>BN W r A1 n1 c1 h1 Ak nk ck A3 n3 c3 h2 Ac nc cc L hL Ao no co others h3 Aw nw cw ws h4 Az nz cz zs h5 h6 hb1 e1 e2 hb4;have BU:Hid (∀c∈kK l r.name,c.cols.length<=4096/\c.ocols.length<=4096):=hide (λc hc=>hb3 c (List.mem_filter.1 hc).1);have oG:Hid ((kK l r.name).length<=4096):=hide (Nat.le_trans (List.length_filter_le _ _) (by rw[hl.len];exact hb2));have uC:=hide λW h=>zN W Ac nc cc l h r.name hb2;have HD:Hid (Bj r l others ws zs=if qD r others zs (kK l r.name)≠0 then (qD r others zs (kK l r.name),[],[]) else if aL r.rows≠0 then (aL r.rows,[],[]) else if dZ r.rows=false then (8,[],[]) else (0,r.rows.filter (λx=>(qE r others ws zs (kK l r.name) (bE x.row)).isEmpty),(r.rows.filter λx=>!(qE r others ws zs (kK l r.name) (bE x.row)).isEmpty).map λx=>⟨r.name,x.row,x.count,qE r others ws zs (kK l r.name) (bE x.row)⟩)):=hide rfl;obtain ⟨R,hR⟩: ∃R,Bj r l others ws zs=R:=⟨_,rfl⟩;rw[hR]at HD⊢;clear hR;obtain ⟨own,hown⟩: ∃o,kK l r.name=o:=⟨_,rfl⟩;rw[hown]at HD BU oG uC;clear hown;obtain ⟨VE,ZQ⟩: ∃e,qD r others zs own=e:=⟨_,rfl⟩;have Pd:=hide ZQ;rw[ZQ]at HD;obtain ⟨NN,ZM⟩: ∃f,qE r others ws zs own=f:=⟨_,rfl⟩;have O8:=hide ZM;rw[ZM]at HD;clear ZQ ZM hb3 hb4;have h63:=hr.le;have HLEN:=hide hr.len;have YW:=hide hrn;go_enter Tryz.func14,Tryz.ntmps14;have HL:=hide hl;clear hl;have HO:=hide ho;clear ho;have LF:=hide hws;clear hws;have HZ:=hide hz;clear hz;have HW:=hide hw;clear hw;have HC:=hide hc;clear hc;have HR:=hide hr;clear hr;go_upto_region 1 with (fail);obtain ⟨W1,hW1⟩: ∃W,W=w.alloc (.cells #[.string r.name,.slice A1 n1 c1,.slice Ak nk ck,.slice A3 n3 c3] 29):=⟨_,rfl⟩;obtain ⟨hbW1,fZ,g0,g1,g2,g3⟩:=kr hW1 rfl;rw[<-hW1];clear hW1;have lN:=hide hbW1;clear hbW1;have LR:=lt_of_cell g0;have XH:=hide g0;have XI:=hide g1;have XJ:=hide g2;have XK:=hide g3;have yC:=hide LR;have RJ:True:=trivial;go_region_held3 (λV=>V.cell? ⟨w.heap.size,0,none⟩=some (.string r.name)/\V.cell? ⟨w.heap.size,1,none⟩=some (.slice A1 n1 c1)/\V.cell? ⟨w.heap.size,2,none⟩=some (.slice Ak nk ck)/\V.cell? ⟨w.heap.size,3,none⟩=some (.slice A3 n3 c3))
  (first|exact ⟨ah Vw.out yC.out XH.out,ah Vw.out yC.out XI.out,ah Vw.out yC.out XJ.out,ah Vw.out yC.out XK.out⟩|exact ⟨ah Mx.out yC.out XH.out,ah Mx.out yC.out XI.out,ah Mx.out yC.out XJ.out,ah Mx.out yC.out XK.out⟩|exact ⟨g0,g1,g2,g3⟩)
  (first|(clear RJ;go_at_call 34;refine (uC.out _ (by exact (HL.out.below lN.out).below (Below.refl _ _).drew)).mono ?_;rintro e w3 ⟨⟨v5,rfl,ho5⟩,hb3⟩;have Mx:=hide (aj hb3);obtain ⟨A5,c5,rfl,hi5⟩:=ho5.inn;obtain ⟨m5,FC⟩: ∃m,own.length=m:=⟨_,rfl⟩;have U6:=hide FC;rw[FC]at hi5;rw[FC];have U4:=hide hi5;clear ho5 hi5 FC;clear hb3;have mk3:True:=trivial)|(clear mk3;go_at_call 33;refine (Us.out _ _ _ _ own (by exact U4.out) (by rw[<-U6.out];exact oG.out) BU.out (by exact (HC.out.below lN.out).below Mx.out) (by exact (HR.out.below lN.out).below Mx.out) (by exact (HO.out.below lN.out).below Mx.out) (by exact (LF.out.below lN.out).below Mx.out) (by exact (HZ.out.below lN.out).below Mx.out) (by exact (HW.out.below lN.out).below Mx.out)).mono ?_;rintro e w4 ⟨⟨mp,rfl,hmp⟩,hb4⟩;have Vw:=hide (aa Mx.out hb4);rw[Pd.out]at hmp;rw[Pd.out];have HMP:=hide hmp;clear hmp;clear hb4;have mk4:True:=trivial))
 have Wh:=Vw.out;clear mk4;have o6:=sP g0 g1 g2 g3;have kP:=hide Wh;clear Wh;by_cases hv0:VE=0;rotate_left
 ·have q0:(VE==0)=false:=by simpa using hv0
  have q1:(VE != 0)=true:=by simpa using hv0
  obtain rfl:R=(VE,[],[]):=by rw[HD.out,if_pos hv0]
  have oD:=hide (aa lN.out kP.out);obtain ⟨LR,g0,g1,g2,g3⟩:=o6.out _ kP.out;go_wp2;all_goals (try (exfalso;go_light;simp_all;done))
  go_ret3
  exact ⟨⟨none,0,0,none,0,0,rfl,In.nil_,In.nil_⟩,oD.out⟩
 have U7:=hide (HMP.out hv0);subst hv0;obtain ⟨bm,nm,f,rfl,hnm⟩:=U7.out;rw[O8.out]at hnm;have PL:=hide hnm;clear hnm;clear HMP U7;have HD2:Hid (R=if aL r.rows≠0 then (aL r.rows,[],[]) else if dZ r.rows=false then (8,[],[]) else (0,r.rows.filter (λx=>(NN (bE x.row)).isEmpty),(r.rows.filter λx=>!(NN (bE x.row)).isEmpty).map λx=>⟨r.name,x.row,x.count,NN (bE x.row)⟩)):=hide (by rw[HD.out];simp);clear HD;obtain ⟨LR,g0,g1,g2,g3⟩:=o6.out _ kP.out;go_wp2_with fail;have R7:=hide (aa lN.out kP.out);refine (Di _ A3 n3 c3 r.rows (HR.out.below R7.out)).mono ?_;rintro e w8 ⟨rfl,x8⟩;have fM:=hide x8;clear x8;obtain ⟨BE,ZG⟩: ∃e,aL r.rows=e:=⟨_,rfl⟩;have xS:=hide ZG;rw[ZG]at HD2⊢;clear ZG;by_cases hv0:BE=0;rotate_left
 ·have q1:(BE != 0)=true:=by simpa using hv0
  obtain rfl:R=(BE,[],[]):=by rw[HD2.out,if_pos hv0]
  have oD:=hide (aa (aa lN.out kP.out) fM.out);have Er:=hide (aa kP.out fM.out);obtain ⟨LR,g0,g1,g2,g3⟩:=o6.out _ Er.out;go_wp2;all_goals (try (exfalso;go_light;simp_all;done))
  go_ret3
  exact ⟨⟨none,0,0,none,0,0,rfl,In.nil_,In.nil_⟩,oD.out⟩
 subst hv0;have CV:=hide (aa kP.out fM.out);obtain ⟨LR,g0,g1,g2,g3⟩:=o6.out _ CV.out;go_wp2_with fail;have qM:=hide (aa (aa lN.out kP.out) fM.out);refine (xh _ A3 n3 c3 r.rows (HR.out.below qM.out)).mono ?_;rintro e X5 ⟨rfl,Dx⟩;have mX:=hide (aa fM.out Dx);clear Dx;cases hit:dZ r.rows
 ·obtain rfl:R=(8,[],[]):=by rw[HD2.out,hit];simp
  have oD:=hide (aa (aa lN.out kP.out) mX.out);have R4:=hide (aa kP.out mX.out);obtain ⟨LR,g0,g1,g2,g3⟩:=o6.out _ R4.out;go_wp2;all_goals (try (exfalso;go_light;simp_all;done))
  go_ret3
  exact ⟨⟨none,0,0,none,0,0,rfl,In.nil_,In.nil_⟩,oD.out⟩
 have HD3:Hid (R=(0,r.rows.filter (λx=>(NN (bE x.row)).isEmpty),(r.rows.filter λx=>!(NN (bE x.row)).isEmpty).map λx=>⟨r.name,x.row,x.count,NN (bE x.row)⟩)):=hide (by rw[HD2.out,hit];simp);obtain ⟨hrl,hrp⟩:=dI xS.out hit;have UD:n3<=4096:=by rw[<-HLEN.out];exact hrl
 have HRW:Hid (∀x∈r.rows,x.row.length<=12):=hide (λx hx=>by
  have h1:=((iN.1 xS.out).2.1 x hx).1;rw[aV]at h1;by_cases q:12<x.row.length\/x.count < -65536\/65536<x.count
  ·rw[if_pos q]at h1;omega
  ·omega)
 clear HD2 hit hrl hrp;obtain ⟨Wb,VU⟩: ∃W,W=X5:=⟨_,rfl⟩;have hnw:=(PL.out.below mX.out);have Es:=hide (aa (aa lN.out kP.out) mX.out);have hrw:=(HR.out.below Es.out);have hbw:=(aa (aa lN.out kP.out) mX.out);have LJ:=hide (aa kP.out mX.out);obtain ⟨LR,g0,g1,g2,g3⟩:=o6.out _ LJ.out;rw[<-VU]at hnw hrw hbw g0 g1 g2 g3 LR⊢;clear VU;have jk:=hide hbw;have LA:=hide hnw;have Sq:=hide hrw;clear hrw;have Uu:=lt_of_cell g0;go_wp2;all_goals (try (exfalso;go_light;simp_all;done));go_loopw [15,16,48] (λt h i wr=> ∃(k:Nat) (ys:List Ent) (qs:List Quar),k<=n3/\i=.int .i64 k/\ys=(r.rows.take k).filter (λx=>(NN (bE x.row)).isEmpty)/\qs=((r.rows.take k).filter λx=>!(NN (bE x.row)).isEmpty).map (λx=>⟨r.name,x.row,x.count,NN (bE x.row)⟩)/\ys.length<=k/\qs.length<=k/\OL 50 Wb.heap.size (λ_=>False) [36] wr t ys/\OL 57 Wb.heap.size (λ_=>True) [36] wr h qs/\Below Wb.heap.size Wb wr) (λ_ _ i _=>n3-(RowKit.intOf i).toNat)
 case atStart=>exact ⟨0,[],[],Nat.zero_le _,rfl,by simp,by simp,by simp,by simp,OL.nil (Nat.le_refl _),OL.nil (Nat.le_refl _),Below.refl _ _⟩
 case round=>
  obtain ⟨k,ys,qs,hk,rfl,hys,hqs,hyl,hql,hot,hoh,hb⟩:=hrel;have GD:=hide hys;have YU:=hide hqs;clear hys hqs;have RO:=MP g0 g3;have jE:=hide hb;clear hb;have Ul:=hide hot;clear hot;have YP:=hide hoh;clear hoh;by_cases hlt:k<n3
  ·obtain ⟨b,off,x,rfl,hBb,HX,Ax,An,Ac2,e0,e1,e2,e3⟩:=(Sq.out.below jE.out).ent hlt;have k0:(0:Int)<=(k:Int):=by omega
   have k1:(k:Int)<(n3:Int):=by omega
   have hxm:=aH HX.out;have hrl:An<=1048576:=by have h1:=HRW.out x hxm;rw[e2.len]at h1;omega
   have I5:=hide e3;have HE2:=hide e2;clear e2;have YI:=hide jE.out;obtain ⟨Uu,g0,g3⟩:=RO.out _ jE.out;go_wp2_with fail;obtain ⟨W5,tZ⟩: ∃W,W=wr.alloc (.cells #[.slice Ax An Ac2,.int .i64 x.count] 50):=⟨_,rfl⟩;obtain ⟨mG,EK,x0,x1⟩:=Dj tZ rfl;rw[<-tZ];clear tZ;have uF:=hide mG;clear mG;have L5:=lt_of_cell x0;clear e0 e1;have Yg:=hide (aa jE.out uF.out);obtain ⟨Uu,g0,g3⟩:=RO.out _ Yg.out;go_wp2_with fail;refine (Cb _ Ax An Ac2 x.row (HE2.out.below uF.out) hrl).mono ?_;rintro e UL ⟨⟨A6,c6,rfl,hs6⟩,Ny⟩;have UJ:=Cw (MP g0 g3) (MP x0 x1);have lV:=hide Ny;clear Ny;have hi6:In UL A6 An c6 x.row:=In.of_sl hs6 λk hk=>hk.2.lt;have Ro:=hide (hs6.mono λk hk=>show BS Wb.heap.size (λ_=>False) [36] UL k from .inr ⟨Nat.le_trans YI.out.size (by have:=hk.1;have:=EK.out;omega),_,by simp,hk.2⟩);clear hs6;have sU:=hide (show Wb.heap.size<=UL.heap.size from (aa (aa jE.out uF.out) lV.out).size);obtain ⟨W6,ZU⟩: ∃W,W=UL:=⟨_,rfl⟩;have HE6:=hide ZU;rw[<-ZU]at Ro sU;clear ZU;have U5:=hide hi6;clear hi6;have Gp:=hide (mU x.row);have HYN:Hid (∀(p:Ent->Bool) (g:Ent->Quar),((r.rows.take (k+1)).filter p).map g=if p x=true then ((r.rows.take k).filter p).map g++[g x] else ((r.rows.take k).filter p).map g):=hide (λp g=>by rw[bg HX.out,Kh]);have Zd:Hid (∀(p:Ent->Bool),(r.rows.take (k+1)).filter p=if p x=true then (r.rows.take k).filter p++[x] else (r.rows.take k).filter p):=hide (λp=>by rw[bg HX.out,List.filter_append,List.filter_cons];cases p x <;> simp);have Uq:=hide λW h=>Ae W A6 An c6 x.row h;obtain ⟨T,hT⟩: ∃T,bE x.row=T:=⟨_,rfl⟩;have HT:=hide hT;rw[hT]at Uq Gp;clear hT;obtain ⟨⟨Uu,g0,g3⟩,L5,x0,x1⟩:=UJ.out _ lV.out;go_wp2_with fail;refine (Uq.out _ U5.out).mono ?_;rintro e Re ⟨rfl,TE⟩;have Vq:=hide TE;have mY:=hide TE;clear TE;have HBL:=hide Vq.out;have R8:=hide (aa (aa (aa jE.out uF.out) lV.out) mY.out);have lk:=LA.out.look Tryz.underlying91 Tryz.underlying9 (λV=>Tryz.zeroValue43 V) Gp.out (V:=Re) ((aa (aa (aa jE.out uF.out) lV.out) mY.out).block _ LA.out.lt);obtain ⟨Al,cl,hfl,hsl⟩:=(LA.out.own T).sl;rw[hfl]at lk;obtain ⟨ml,hml⟩: ∃m,(NN T).length=m:=⟨_,rfl⟩;rw[hml]at lk hsl;have Uk:=hide hml;have Uo:=hide hsl;clear hfl hml hsl;have TK:=hyl;have hql2:=hql;have zi:ys.length+1<=maxLen:=by simp only[maxLen];omega
   have zk:(ys.length+1)*32<=140737488355328:=by omega
   have hk65:qs.length+1<=maxLen:=by simp only[maxLen];omega
   have hk66:(qs.length+1)*72<=140737488355328:=by omega
   by_cases hm0:ml=0
   ·have hem:(NN (bE x.row)).isEmpty=true:=by rw[HT.out,List.isEmpty_iff];exact List.eq_nil_of_length_eq_zero (by rw[Uk.out];exact hm0)
    have CZ:Hid (ys++[x]=(r.rows.take (k+1)).filter (λx=>(NN (bE x.row)).isEmpty)):=hide (by rw[Zd.out,if_pos hem,GD.out]);have fD:Hid (qs=((r.rows.take (k+1)).filter λx=>!(NN (bE x.row)).isEmpty).map (λx=>⟨r.name,x.row,x.count,NN (bE x.row)⟩)):=hide (by rw[HYN.out,if_neg (by simp[hem]),YU.out]);have PO:Hid (Rep.rd Re (BS Wb.heap.size (λ_=>False) [36] Re) [.slice A6 An c6,.int .i64 x.count] x):=hide ⟨A6,An,c6,rfl,rQ Ro.out sU.out (HE6.out▸HBL.out),I5.out⟩;have Pn:=hide (aa (aa uF.out lV.out) mY.out);have Xh:=hide (Ul.out.below Pn.out);have Xb:=hide (YP.out.below Pn.out);subst hm0;clear hem;have Et:=hide (aa lV.out mY.out);obtain ⟨⟨Uu,g0,g3⟩,L5,x0,x1⟩:=UJ.out _ Et.out;go_wp2_with (at_builtin;refine bF _ rfl _ _ _ rfl wy (by decide) Re _ rfl Xh.out rfl rfl x PO.out zi zk ?_;intro v9 w9 oQ fK qR kJ);all_goals (try (exfalso;go_light;simp_all;done));have qG:=hide oQ;have uB:=hide (R8.out.trans fK);have YT:=hide (Xb.out.besideT Xh.out (by decide) (by decide) qR);clear oQ fK qR kJ;go_wp2;all_goals (try (exfalso;go_light;simp_all;done));go_roundw
    case rel=>exact ⟨k+1,ys++[x],qs,by omega,by go_num,CZ.out,fD.out,by simp;omega,by omega,qG.out,YT.out,uB.out⟩
    case measure=>simp[RowKit.intOf];omega
   ·have hem:(NN (bE x.row)).isEmpty=false:=by
     rw[HT.out];cases h:NN T with
     |nil=>exact absurd (by rw[<-Uk.out,h];rfl) hm0
     |cons _ _=>rfl
    have CZ:Hid (ys=(r.rows.take (k+1)).filter (λx=>(NN (bE x.row)).isEmpty)):=hide (by rw[Zd.out,if_neg (by simp[hem]),GD.out]);have fD:Hid (qs++[⟨r.name,x.row,x.count,NN T⟩]=((r.rows.take (k+1)).filter λx=>!(NN (bE x.row)).isEmpty).map (λx=>⟨r.name,x.row,x.count,NN (bE x.row)⟩)):=hide (by rw[HYN.out,if_pos (by simp[hem]),YU.out,HT.out]);have Y1:Hid (Sl Re (BS Wb.heap.size (λ_=>True) [36] Re) Al ml cl (NN T)):=hide ((Sl.keep (λk hk=>R8.out.block k (hk.lt (LA.out.own T).base)) Uo.out).mono λk hk=>.inl ⟨trivial,hk.lt (LA.out.own T).base⟩);have PO:Hid (Rep.rd Re (BS Wb.heap.size (λ_=>True) [36] Re) [.string r.name,.slice A6 An c6,.int .i64 x.count,.slice Al ml cl] (⟨r.name,x.row,x.count,NN T⟩:Quar)):=hide ⟨A6,An,c6,Al,ml,cl,rfl,(rQ Ro.out sU.out (HE6.out▸HBL.out)).mono (λk hk=>by
     rcases hk with ⟨hk,_⟩|hk
     ·exact hk.elim
     ·exact .inr hk),Y1.out,YW.out,I5.out⟩
    have Po:=hide (aa (aa uF.out lV.out) mY.out);have Xh:=hide (Ul.out.below Po.out);have Xb:=hide (YP.out.below Po.out);have d0:(0:Int)<(ml:Int):=by omega
    clear hem;have JD:=hide (aa lV.out mY.out);obtain ⟨⟨Uu,g0,g3⟩,L5,x0,x1⟩:=UJ.out _ JD.out;go_wp2_with (at_builtin;refine bF _ rfl _ _ _ rfl J9 (by decide) Re _ rfl Xb.out rfl rfl (⟨r.name,x.row,x.count,NN T⟩:Quar) PO.out hk65 hk66 ?_;intro v9 w9 oQ fK qR kJ);all_goals (try (exfalso;go_light;simp_all;done));have qG:=hide oQ;have uB:=hide (R8.out.trans fK);have YT:=hide (Xh.out.besideT Xb.out (by decide) (by decide) qR);clear oQ fK qR kJ;go_wp2;all_goals (try (exfalso;go_light;simp_all;done));go_roundw
    case rel=>exact ⟨k+1,ys,qs++[⟨r.name,x.row,x.count,NN T⟩],by omega,by go_num,CZ.out,fD.out,by omega,by simp;omega,YT.out,qG.out,uB.out⟩
    case measure=>simp[RowKit.intOf];omega
  ·have Vi:Hid (r.rows.take k=r.rows):=hide (List.take_of_length_le (by rw[HLEN.out];omega));obtain rfl:R=(0,ys,qs):=by rw[HD3.out,GD.out,YU.out,Vi.out]
   obtain ⟨Ay,cy,rfl,hiy⟩:=Ul.out.inn;obtain ⟨Aq,cq,rfl,hiq⟩:=YP.out.inn;have HIY:=hide hiy;have HIQ:=hide hiq;have Yk:=hide (aa jk.out jE.out);clear hiy hiq;obtain ⟨Uu,g0,g3⟩:=RO.out _ jE.out;go_wp2
   go_ret3
   exact ⟨⟨_,_,_,_,_,_,rfl,HIY.out,HIQ.out⟩,Yk.out⟩
end Go.Proofs.YtopjjlmfilgngaaGreatDoor
