/-
  quarantine.violators: the names of the checks that each row violates. quarantine.Divide.
-/
import Derived.Deep.DeepCutAuto
import Derived.Deep.CutRange
import Derived.Test.YtopjjlmfilgngaaGreatDoorGay
import Derived.Test.YtopjjlmfilgngaaGreatDoorGas
import Derived.Test.YtopjjlmfilgngaaGreatDoorGaf
import Derived.Test.YtopjjlmfilgngaaGreatDoorGav
import Derived.Test.YtopjjlmfilgngaaGreatDoorGac
import Derived.Test.YtopjjlmfilgngaaGreatDoorGar
namespace Go.Proofs.YtopjjlmfilgngaaGreatDoor
set_option maxHeartbeats 8000000
set_option maxRecDepth 100000
open Go.RowKit Go.Maps
set_option linter.unusedSimpArgs false
set_option linter.unusedVariables false
theorem CY:Elem Tryz.prog 43 9 1 16:=mM (.string ⟨#[]⟩) Tryz.underlying43 (by kernel_rfl) rfl (by decide)
structure Kp (e b:Nat) (W1 Wi V:World):Prop where
 bel:Below W1.heap.size W1 V
 size:Wi.heap.size<=V.heap.size
 blk: ∀k,k<Wi.heap.size->k≠b->¬bi Wi e k->V.heap[k]?=Wi.heap[k]?
section
variable {e b g o:Nat}{W1 Wi V V':World}
theorem Kp.refl (h:Below W1.heap.size W1 Wi):Kp e b W1 Wi Wi:=⟨h,Nat.le_refl _,λ_ _ _ _=>rfl⟩
theorem Kp.below (h:Kp e b W1 Wi V)(hb:Below V.heap.size V V'):Kp e b W1 Wi V':=
 ⟨aa h.bel hb,Nat.le_trans h.size hb.size,λk h1 h2 h3=>(hb.block k (Nat.lt_of_lt_of_le h1 h.size)).trans (h.blk k h1 h2 h3)⟩
theorem Kp.own {row:Option Nat}(h:Kp e b W1 Wi V)(hg:V.grownBy V' row)(hr: ∀k,row=some k->W1.heap.size<=k/\(k=b\/bi V e k)):Kp e b W1 Wi V':=
 ⟨h.bel.grown hg h.bel.size λk q=>(hr k q).1,Nat.le_trans h.size hg.size,λk h1 h2 h3=>(hg.block k (Nat.lt_of_lt_of_le h1 h.size) λq=>by
  rcases (hr k q.symm).2 with q|⟨c,q⟩
  ·exact h2 q
  ·exact h3 ⟨c,(h.blk k h1 h2 h3)▸q⟩).trans (h.blk k h1 h2 h3)⟩
theorem Kp.cell (h:Kp e b W1 Wi V){v:Value}(hc:Wi.cell? ⟨g,o,none⟩=some v)(hg:g≠b)(ht:¬bi Wi e g):V.cell? ⟨g,o,none⟩=some v:=
 (World.cell?_of_block (a:=⟨g,o,none⟩) (h.blk g (lt_of_cell hc) hg ht)).trans hc
theorem Kp.sl {α:Type}[Rep α]{S:Nat->Prop}{A:Option Addr}{n c:Nat}{xs:List α}(h:Kp e b W1 Wi V)(hs:Sl Wi S A n c xs)(hS: ∀k,S k->k<Wi.heap.size/\k≠b/\¬bi Wi e k):In V A n c xs:=
 In.of_sl (Sl.keep (λk hk=>h.blk k (hS k hk).1 (hS k hk).2.1 (hS k hk).2.2) hs) λk hk=>Nat.lt_of_lt_of_le (hS k hk).1 h.size
end
theorem Sl.ent {w:World}{S:Nat->Prop}{A:Option Addr}{n c k:Nat}{xs:List Ent}(h:Sl w S A n c xs)(hk:k<n): ∃b off x,A=some ⟨b,off,none⟩/\S b/\Hid (xs.drop k=x :: xs.drop (k+1))/\
  ∃A' n' c',w.cell? ⟨b,off+k*2,none⟩=some (.slice A' n' c')/\w.cell? ⟨b,off+k*2+1,none⟩=some (.int .i64 x.count)/\Sl w S A' n' c' x.row/\dH x.count:=by
 obtain ⟨b,off,e,hb,hi⟩:=h.2.2.2.2 (by omega);have hl:k<xs.length:=by rw[h.1];exact hk
 obtain ⟨cs,⟨A',n',c',rfl,hs,hv⟩,hc⟩:=hi k hl;exact ⟨b,off,xs[k],e,hb,List.drop_eq_getElem_cons hl,A',n',c',hc 0 (by simp),hc 1 (by simp),hs,hv⟩
def wN (P:Program)(K e:TypeId)(B b n:Nat)(f:ByteArray->Value)(F:ByteArray->List ByteArray)(T x:ByteArray)(V:World)(v:Value):Prop:=
 ∃V0,NMap P K e B V0 b n f F/\V0.grownBy V (f T).ownBlock/\OL e B (λ_=>False) [] V v (F T++[x])/\(v.ownBlock=(f T).ownBlock\/ ∃k,v.ownBlock=some k/\V0.heap.size<=k)
theorem wN.below {P:Program}{K e:TypeId}{B b n:Nat}{f:ByteArray->Value}{F:ByteArray->List ByteArray}{T x:ByteArray}{V V':World}{v:Value}(h:wN P K e B b n f F T x V v)(hb:Below V.heap.size V V'):wN P K e B b n f F T x V' v:=by
 obtain ⟨V0,h1,h2,h3,h4⟩:=h;exact ⟨V0,h1,h2.trans (Below.grows hb _),h3.below hb,h4⟩
theorem Kp.ty {e b t g:Nat}{W1 Wi V:World}(h:Kp e b W1 Wi V)(hc:bi Wi t g)(hg:g≠b)(ht:¬bi Wi e g):bi V t g:=by
 obtain ⟨c,q⟩:=hc;exact ⟨c,(h.blk g (bi.lt ⟨c,q⟩) hg ht).trans q⟩
def Ko {α:Type}[Rep α](e b:Nat)(V:World)(A:Option Addr)(n c:Nat)(xs:List α):Prop:=Sl V (λk=>k<V.heap.size/\k≠b/\¬bi V e k) A n c xs
section
variable {α:Type}[Rep α]{e b n c:Nat}{W1 Wi V V':World}{A:Option Addr}{xs:List α}
theorem Ko.inn (h:Ko e b V A n c xs):In V A n c xs:=In.of_sl h λk hk=>hk.1
theorem Ko.below (h:Ko e b V A n c xs)(hb:Below V.heap.size V V'):Ko e b V' A n c xs:=
 (Sl.keep (λk hk=>hb.block k hk.1) h).mono λk hk=>⟨Nat.lt_of_lt_of_le hk.1 hb.size,hk.2.1,λ⟨c,q⟩=>hk.2.2 ⟨c,(hb.block k hk.1)▸q⟩⟩
theorem Kp.ko {S:Nat->Prop}(h:Kp e b W1 Wi V)(hs:Sl Wi S A n c xs)(hS: ∀k,S k->k<Wi.heap.size/\k≠b/\¬bi Wi e k):Ko e b V A n c xs:=
 (Sl.keep (λk hk=>h.blk k (hS k hk).1 (hS k hk).2.1 (hS k hk).2.2) hs).mono λk hk=>⟨Nat.lt_of_lt_of_le (hS k hk).1 h.size,(hS k hk).2.1,λ⟨c,q⟩=>(hS k hk).2.2 ⟨c,(h.blk k (hS k hk).1 (hS k hk).2.1 (hS k hk).2.2)▸q⟩⟩
theorem Kp.ko2 (h:Kp e b W1 Wi V)(hs:Ko e b Wi A n c xs):Ko e b V A n c xs:=h.ko hs λ_ hk=>hk
theorem Kp.trans {V2:World}(h:Kp e b W1 Wi V)(h':Kp e b W1 V V2):Kp e b W1 Wi V2:=
 ⟨h'.bel,Nat.le_trans h.size h'.size,λk h1 h2 h3=>(h'.blk k (Nat.lt_of_lt_of_le h1 h.size) h2 λ⟨c,q⟩=>h3 ⟨c,(h.blk k h1 h2 h3)▸q⟩).trans (h.blk k h1 h2 h3)⟩
end
theorem LU {V:World}{g e:Nat}{v:Value}(h:V.heap[g]?=some (.cells #[v] e (0,0))):Src V 1 (some ⟨g,0,none⟩) 1 [v]:=
 ⟨rfl,λ_=>⟨g,0,rfl,λj u hu=>by
  rw[Nat.zero_add,cell_of_row V g j _ e (0,0) h];simpa using hu⟩⟩
structure R15 (B b m:Nat) (W1 Wr:World) (f:ByteArray->Value) (F:ByteArray->List ByteArray) (T nm:ByteArray) (gc gy:Nat) (Ay:Option Addr) (ny cy:Nat) (V:World) (v60 v61 v62 v63 v64 v65 v66 v67 v68 v69 v70 v71 v72:Value) (L:Nat->Bool):Prop where
 kp:Kp 9 b W1 Wr V
 f0:L 0=true->v60=.map (some b)
 f1:L 1=true->v61=.pointer (some ⟨gy,0,none⟩)
 f2:L 2=true->v62=.slice Ay ny cy
 f3:L 3=true->v63=.string T
 f4:L 4=true->v64=.map (some b)
 f5:L 5=true->v65=.pointer (some ⟨gy,0,none⟩)
 f6:L 6=true->v66=.slice Ay ny cy
 f7:L 7=true->v67=.string T
 f8:L 8=true->v68=f T
 f9:L 9=true->v69=.pointer (some ⟨gc,0,none⟩)
 f10:L 10=true->v70=.string nm
 f11:L 11=true-> ∃g,v71=.slice (some ⟨g,0,none⟩) 1 1/\(L 12=false->V.heap[g]?=some (.cells #[.string nm] 9 (0,0)))
 s0:L 12=false->NMap Tryz.prog 9 9 B V b m f F
 s1:L 12=true->L 13=false->wN Tryz.prog 9 9 B b m f F T nm V v72
 s2:L 13=true-> ∃f2,NMap Tryz.prog 9 9 B V b (m+1) f2 (λs=>if s=T then F T++[nm] else F s)
 o8:L 8=true->L 7=true
 o12:L 12=true->L 8=true/\L 11=true
 o13:L 13=true->L 12=true/\L 3=true/\L 7=true
def dZ:Nat->List Nat
 | 2=>[1]
 | 3=>[2]
 | 6=>[5]
 | 7=>[6]
 | 8=>[4,7]
 | 10=>[9]
 | 11=>[10]
 | 12=>[8,11]
 | 13=>[0,3,12]
 | _=>[]
theorem vz (w:World)(r:Rel)(A1:Option Addr)(n1 c1:Nat)(hc:In w A1 n1 c1 r.columns)(Ak:Option Addr)(nk ck:Nat)(A3:Option Addr)(n3 c3:Nat)(hr:In w A3 n3 c3 r.rows)(Ac:Option Addr)(nc cc:Nat)(l:List Chk)(hl:In w Ac nc cc l)(Ao:Option Addr)(no co:Nat)(others:List Rel)(ho:In w Ao no co others)(Aw:Option Addr)(nw cw:Nat)(ws:List Wvr)(hws:In w Aw nw cw ws)(Az:Option Addr)(nz cz:Nat)(zs:List Zone)(hz:In w Az nz cz zs)(hw:Words w)(hb1:n1<=4096)(hb2:nc<=4096)(hb3: ∀c∈l,c.cols.length<=4096/\c.ocols.length<=4096)(hb4: ∀o∈others,o.columns.length<=4096):
  Calls Tryz.prog 33 #[.agg #[.string r.name,.slice A1 n1 c1,.slice Ak nk ck,.slice A3 n3 c3],.slice Ac nc cc,.slice Ao no co,.slice Aw nw cw,.slice Az nz cz] w
   λe w'=>(∃m,e=.returned (.tuple #[m,.int .i64 (lu r others zs l)])/\(lu r others zs l=0-> ∃b n f,m=.map (some b)/\NMap Tryz.prog 9 9 w.heap.size w' b n f (lv r others ws zs l)))/\Below w.heap.size w w':=by
 have hmm:=@run_makeMap Tryz.prog;have h63:=hl.le;have HLEN:=hide hl.len;have BP:Hid (∀c:Chk,(bQ c others).2.columns.length<=4096):=hide (λc=>by
  rw[bQ]
  split
  ·simp[tZ]
  ·cases hf:others.find? (Bv c.other) with
   |none=>simp[wC,tZ]
   |some r=>exact hb4 r (List.mem_of_find?_eq_some hf))
 have HB3:=hide hb3;have Mf:=hide λW x A n c A' n' c' bX n'' c'' hx=>zB W x A n c A' n' c' bX n'' c'' Ao no co others hx;have SC:=hide λW x A n c hn A' n' c' hn' bX n'' c'' hq hw h1 h2 on A2 n2 c2 ocols h3 Al nl cl A4 n4 c4 orows h4 h5 e1 e2 e3=>uJ W x A n c hn A' n' c' hn' bX n'' c'' hq hw r.name A1 n1 c1 r.columns h1 Ak nk ck A3 n3 c3 r.rows h2 on A2 n2 c2 ocols h3 Al nl cl A4 n4 c4 orows h4 Az nz cz zs h5 e1 e2 hb1 e3;obtain ⟨E,hE⟩: ∃E,lu r others zs l=E:=⟨_,rfl⟩;have HE:=hide hE;rw[hE];clear hE hb3 hb4;simp only[aR]at Mf SC;go_enter Tryz.func33,Tryz.ntmps33;have QR:=hide hws;have HL:=hide hl;clear hl;have HO:=hide ho;clear ho;have QP:=hide hws;clear hws;have HZ:=hide hz;clear hz;have HW:=hide hw;clear hw;have HC:=hide hc;clear hc;have HR:=hide hr;clear hr;go_wp2_with fail;obtain ⟨W1,hW1⟩: ∃W,W=w.alloc (.cells #[.string r.name,.slice A1 n1 c1,.slice Ak nk ck,.slice A3 n3 c3] 29):=⟨_,rfl⟩;obtain ⟨hbW1,gZ,g0,g1,g2,g3⟩:=jN hW1 rfl;rw[<-hW1];clear hW1;have QV:=hide hbW1;have lI:=hide hbW1;clear hbW1;have LR:=lt_of_cell g0;have MV:=hide QV.out;have Eg:=hide (NMap.made Tryz.prog 9 9 W1 (B:=W1.heap.size) (Nat.le_refl _));have HB0:Hid (Below W1.heap.size W1 (W1.alloc (.map #[] 0))):=hide ae;have U0:=hide (show (W1.alloc (.map #[] 0)).heap.size=W1.heap.size+1 from World.size_alloc _ _);rw[<-gZ.out];go_wp2;go_loopw [23] (λi wr=> ∃(k n:Nat) (f:ByteArray->Value) (F:ByteArray->List ByteArray),k<=nc/\i=.int .i64 k/\NMap Tryz.prog 9 9 W1.heap.size wr W1.heap.size n f F/\n<=k*4096/\(∀s,F s=lv r others ws zs (l.take k) s)/\(∀s,(F s).length<=k*4096)/\E=ag (λ_=>qb r others zs) k (l.drop k)/\Below W1.heap.size W1 wr/\W1.heap.size+1<=wr.heap.size) (λi _=>nc-(RowKit.intOf i).toNat)
 case atStart=>exact ⟨0,0,_,_,Nat.zero_le _,rfl,Eg.out,Nat.zero_le _,(λs=>by simp[lv]),(λs=>by simp),HE.out.symm,HB0.out,by rw[U0.out];exact Nat.le_refl _⟩
 case round=>
  obtain ⟨k,n,f,F,hk,rfl,hnm,hn,hF,Ti,heq,hb,hsz⟩:=hrel;have Sa:=hide hF;have Sb:=hide Ti;have xQ:=hide heq;have KS:=hide hsz;clear hF Ti heq hsz;have o2:=rJ g0 g1 g2 g3;have lM:=hide hb;clear hb;have Pf:=hide hnm;clear hnm;have WC:=hide lM.out;by_cases hlt:k<nc
  ·have T9:=hide (aa lI.out lM.out);obtain ⟨bL,oL,x,rfl,hBb,HX,PZ,PS,Q5,P5,PU,Q6,P6,RQ,Q7,⟨f0,f1,f2,f3,f4,f5,f6,f7,f8,f9,f10,f11,f12,f13⟩,i1,i2,i3,hok⟩:=(HL.out.below T9.out).chk hlt;have k0:(0:Int)<=(k:Int):=by omega
   have k1:(k:Int)<(nc:Int):=by omega
   have wM:=hide hok;clear hok;have I1:=hide i1;clear i1;have I2:=hide i2;clear i2;have I3:=hide i3;clear i3;have MZ:Hid (E=if qb r others zs x≠0 then qb r others zs x else ag (λ_=>qb r others zs) (k+1) (l.drop (k+1))):=hide (by rw[xQ.out,HX.out,ag]);have GK:Hid (qb r others zs x=if (bQ x others).1≠0 then (bQ x others).1 else (ky r others zs x).1):=hide rfl;obtain ⟨V,hV⟩: ∃V,qb r others zs x=V:=⟨_,rfl⟩;have hxm:=aF HX.out;obtain ⟨hx1,hx2⟩:=HB3.out x hxm;have hx1:PS<=4096:=by rw[<-I1.out.len];exact hx1
   have hx2:PU<=4096:=by rw[<-I2.out.len];exact hx2
   rw[hV]at MZ GK;clear hV;obtain ⟨LR,g0,g1,g2,g3⟩:=o2.out _ lM.out;go_wp2_with fail;obtain ⟨W2,hW2⟩: ∃W,W=wr.alloc (.cells #[.string x.name,.string x.table,.int .i64 x.kind,.slice PZ PS Q5,.string x.other,.slice P5 PU Q6,.int .i64 x.low,.int .i64 x.high,.slice P6 RQ Q7,.int .i64 x.ln,.int .i64 x.ld,.int .i64 x.mn,.int .i64 x.md,.int .i64 x.policy] 48):=⟨_,rfl⟩;obtain ⟨hbW2,CO,p0,p1,p2,p3,p4,p5,p6,p7,p8,p9,Kh,Ki,Kj,Kk⟩:=dn hW2 rfl;have nX:Hid (bF W2 (wr.heap.size) 48 14):=hide (by rw[hW2];exact bF.made _ _ _ _ rfl);rw[<-hW2];clear hW2;have nD:=hide hbW2;clear hbW2;have LC:=lt_of_cell p0;have Ma:=hide (aa lM.out nD.out);obtain ⟨LR,g0,g1,g2,g3⟩:=o2.out _ Ma.out;go_wp2_with fail;have MR:=hide (aa (aa lI.out lM.out) nD.out);refine (Mf.out _ x PZ PS Q5 P5 PU Q6 P6 RQ Q7 (HO.out.below MR.out)).mono ?_;rintro e w6 ⟨⟨on,A2,n2,c2,Al,nl,cl,A4,n4,c4,rfl,hoc,hor⟩,hb6⟩;have o9:=xL (rJ g0 g1 g2 g3) (nK p0 p1 p2 p3 p4 p5 p6 p7 p8 p9 Kh Ki Kj Kk);have dC:=hide hb6;clear hb6;obtain ⟨OS,Rk⟩: ∃q,bQ x others=q:=⟨_,rfl⟩;have Qv:=hide Rk;have RB:n2<=4096:=by rw[<-hoc.len];exact BP.out x
   rw[Rk]at hoc hor GK⊢;clear Rk;have vE:=hide hoc;clear hoc;have xR:=hide hor;clear hor;obtain ⟨e1,JE⟩:=OS;by_cases he1:e1=0;rotate_left
   ·have q0:(e1 != 0)=true:=by simpa using he1
    have HR:Hid (E=e1):=hide (by rw[MZ.out,GK.out];simp[he1]);have oM:=hide (aa (aa (aa lI.out lM.out) nD.out) dC.out);obtain rfl:=HR.out;obtain ⟨⟨LR,g0,g1,g2,g3⟩,LC,p0,p1,p2,p3,p4,p5,p6,p7,p8,p9,Kh,Ki,Kj,Kk⟩:=o9.out _ dC.out;go_wp2_with fail;all_goals (try (exfalso;go_light;simp_all;done));go_ret2;exact ⟨⟨_,rfl,λh=>absurd h he1⟩,oM.out.alloc oM.out.size _⟩
   subst he1;obtain ⟨⟨LR,g0,g1,g2,g3⟩,LC,p0,p1,p2,p3,p4,p5,p6,p7,p8,p9,Kh,Ki,Kj,Kk⟩:=o9.out _ dC.out;go_wp2_with fail;all_goals (try (exfalso;go_light;simp_all;done));obtain ⟨W4,qA⟩: ∃W,W=w6.alloc (.cells #[.string on,.slice A2 n2 c2,.slice Al nl cl,.slice A4 n4 c4] 29):=⟨_,rfl⟩;obtain ⟨j6,qi,s0,s1,s2,s3⟩:=jN qA rfl;rw[<-qA];clear qA;have nA:=hide j6;clear j6;have LO:=lt_of_cell s0;have Ml:Hid (ky r others zs x=nT x r.columns JE.columns r.rows JE.rows zs):=hide (by rw[ky,Qv.out]);have Nr:=hide (Eb (r:=r) (others:=others) (zs:=zs) (c:=x));have zW:=hide (aa dC.out nA.out);obtain ⟨⟨LR,g0,g1,g2,g3⟩,LC,p0,p1,p2,p3,p4,p5,p6,p7,p8,p9,Kh,Ki,Kj,Kk⟩:=o9.out _ zW.out;go_wp2_with fail;have ni:=hide (aa (aa (aa (aa lI.out lM.out) nD.out) dC.out) nA.out);have Kl:=hide (aa (aa nD.out dC.out) nA.out);refine (SC.out _ x PZ PS Q5 (I1.out.below Kl.out) P5 PU Q6 (I2.out.below Kl.out) P6 RQ Q7 (I3.out.below Kl.out) (HW.out.below ni.out) (HC.out.below ni.out) (HR.out.below ni.out) on A2 n2 c2 JE.columns (vE.out.below nA.out) Al nl cl A4 n4 c4 JE.rows (xR.out.below nA.out) (HZ.out.below ni.out) hx1 hx2 RB).mono ?_;rintro e RZ ⟨⟨bv,rfl,hol⟩,Df⟩;have o16:=xL (rJ g0 g1 g2 g3) (xL (nK p0 p1 p2 p3 p4 p5 p6 p7 p8 p9 Kh Ki Kj Kk) (rJ s0 s1 s2 s3));have NE:=hide Df;have lL:=hide Df;clear Df;rw[<-Ml.out]at hol⊢;clear Ml;obtain ⟨VO,Rn⟩: ∃q,ky r others zs x=q:=⟨_,rfl⟩;have Ml:=hide Rn;rw[Rn]at hol GK Nr⊢;clear Rn;obtain ⟨e2,bad⟩:=VO;by_cases he2:e2=0;rotate_left
   ·have q0:(e2 != 0)=true:=by simpa using he2
    have HR:Hid (E=e2):=hide (by rw[MZ.out,GK.out];simp[he2]);have oM:=hide (aa (aa (aa (aa (aa lI.out lM.out) nD.out) dC.out) nA.out) lL.out);obtain rfl:=HR.out;obtain ⟨⟨LR,g0,g1,g2,g3⟩,⟨LC,p0,p1,p2,p3,p4,p5,p6,p7,p8,p9,Kh,Ki,Kj,Kk⟩,LO,s0,s1,s2,s3⟩:=o16.out _ lL.out;go_wp2;all_goals (try (exfalso;go_light;simp_all;done));go_ret2;exact ⟨⟨_,rfl,λh=>absurd h he2⟩,oM.out⟩
   subst he2;dsimp only at hol;have hbl:bad.length<=4096:=Nr.out rfl;have Ul:Hid (E=ag (λ_=>qb r others zs) (k+1) (l.drop (k+1))):=hide (by rw[MZ.out,GK.out];simp);obtain ⟨Ab,cb,hbv,hsl⟩:=hol.sl;obtain rfl:=hbv;obtain ⟨mb,hmb⟩: ∃m,bad.length=m:=⟨_,rfl⟩;rw[hmb]at hsl hbl⊢;have JR:=hide hmb;have hbs:W1.heap.size+1<=W4.heap.size:=Nat.le_trans KS.out (by have:=qi.out;have:=CO.out;have:=NE.out.size;omega);have Sw:Hid (∀(V:World) k,BS W4.heap.size (λ_=>False) [50,36] V k->W4.heap.size<=V.heap.size->k<V.heap.size/\k≠W1.heap.size/\¬bi V 9 k):=hide (λV k h hV=>⟨h.lt hV,by
     rcases h with ⟨h,_⟩|⟨h,_⟩
     ·cases h
     ·omega,λq=>by
     rcases h with ⟨h,_⟩|⟨_,t,ht,h⟩
     ·exact h
     ·simp only[List.mem_cons,List.not_mem_nil,or_false]at ht;rcases ht with rfl|rfl
      ·exact bi.ne h q (by decide) rfl
      ·exact bi.ne h q (by decide) rfl⟩)
   have xJ:=hide hol.base;have Di:=Nat.le_trans hbs hol.base;have Mh:=hide hsl;clear hmb hsl hol MZ GK Nr hbs;have Km:=hide (aa (aa dC.out nA.out) lL.out);have htc:=(nX.out.below Km.out).ty;have P9:=hide (aa (aa (aa nD.out dC.out) nA.out) lL.out);have hnw:=(Pf.out.below P9.out);have hbw:=(aa (aa (aa (aa (aa lI.out lM.out) nD.out) dC.out) nA.out) lL.out);have hb1:=(aa (aa (aa (aa lM.out nD.out) dC.out) nA.out) lL.out);have Qa:=hide (aa (aa (aa (aa (aa lI.out lM.out) nD.out) dC.out) nA.out) lL.out);have hws:=(QP.out.below Qa.out);obtain ⟨Wi,Tj⟩: ∃W,W=RZ:=⟨_,rfl⟩;obtain ⟨⟨LR,g0,g1,g2,g3⟩,⟨LC,p0,p1,p2,p3,p4,p5,p6,p7,p8,p9,Kh,Ki,Kj,Kk⟩,LO,s0,s1,s2,s3⟩:=o16.out _ lL.out;rw[<-Tj]at htc hnw hbw hb1 hws Di xJ Mh p0⊢;clear Tj;have SA:=hide htc;have SI:=hide Di;clear Di;have KJ:=hide hnw;have Ue:=hide hbw;have Uc:=hide hb1;have Vb:=hide hws;have P0:=hide p0;have M3:Hid (wr.heap.size≠W1.heap.size/\¬bi Wi 9 wr.heap.size):=hide ⟨by have:=KS.out;omega,λh=>bi.ne SA.out h (by decide) rfl⟩;have Qo:=hide (Kp.refl (e:=9) (b:=W1.heap.size) hb1);obtain ⟨wo,rfl⟩: ∃W,W=wr:=⟨_,rfl⟩;go_upto_region 11 with (fail);go_cut [47,48,49] from 24 to 46 (λWe Wh s49 wx=>We=.slice Ab mb cb/\Wh=.int .i64 mb/\s49=.int .i64 0/\wx=Wi)
   case first=>
    go_wp2;go_meet
    case rel=>exact ⟨rfl,rfl,rfl,rfl⟩
   obtain ⟨rfl,rfl,rfl,hwx⟩:=hcut;obtain rfl:=hwx.symm;go_wp2;go_loopw [49] (λj wi=> ∃(q m:Nat) (f':ByteArray->Value) (F':ByteArray->List ByteArray),q<=mb/\j=.int .i64 q/\NMap Tryz.prog 9 9 W1.heap.size wi W1.heap.size m f' F'/\m<=n+q/\(∀s,F' s=F s++fP ws x (bad.take q) s)/\Kp 9 W1.heap.size W1 Wi wi) (λj _=>mb-(RowKit.intOf j).toNat)
   case atStart=>exact ⟨0,n,f,F,Nat.zero_le _,rfl,KJ.out,by omega,(λs=>by simp[fP]),Qo.out⟩
   case round=>
    obtain ⟨q,m,f',F',hq,rfl,hnm',hm,hF',hkp⟩:=hrel;have oN:=hide hkp;have Md:=hide hF';have Vg:=hide (aa MV.out hkp.bel);clear hkp hF';obtain ⟨wi,rfl⟩: ∃W,W=wr:=⟨_,rfl⟩;have Qt:=hide hnm';clear hnm';have QQ:=hide (QR.out.below Vg.out);have hbi:=oN.out.bel;by_cases hlt2:q<mb
    ·obtain ⟨b9,o9,y,rfl,hSb,HY,Ay,ny,cy,u0,u1,u2,u3⟩:=Mh.out.ent hlt2;have j0:(0:Int)<=(q:Int):=by omega
     have j1:(q:Int)<(mb:Int):=by omega
     have y9:=Sw.out _ _ hSb xJ.out;have r0:=oN.out.cell u0 y9.2.1 y9.2.2;have r1:=oN.out.cell u1 y9.2.1 y9.2.2;have hko:=oN.out.ko u2 (λk h=>Sw.out _ k h xJ.out);have TH:=oN.out.ty SA.out M3.out.1 M3.out.2;have hc0:=oN.out.cell P0.out M3.out.1 M3.out.2;clear u0 u1 u2 hSb y9;have QU:=lt_of_cell hc0;have Sg:=hide hko;clear hko;have U7:=hide TH;clear TH;have TN:=QQ.out;have U9:=hide TN;clear TN;go_wp2_with fail;obtain ⟨W9,PL⟩: ∃W,W=wi.alloc (.cells #[.slice Ay ny cy,.int .i64 y.count] 50):=⟨_,rfl⟩;obtain ⟨Ou,Vm,y0,y1⟩:=wR PL rfl;have QY:Hid (bF W9 (wi.heap.size) 50 2):=hide (by rw[PL];exact bF.made _ _ _ _ rfl);rw[<-PL];clear PL;have zV:=kM hc0;have jq:=hide Ou;clear Ou;have LY:=lt_of_cell y0;obtain ⟨QU,hc0⟩:=zV.out _ jq.out;go_wp2_with fail;refine (BM _ Aw nw cw ws (U9.out.below jq.out) x.name Ay ny cy y.row (Sg.out.below jq.out).inn).mono ?_;rintro e TY ⟨rfl,FE⟩;have MK:=xL (kM hc0) (EN y0 y1);have iM:=hide FE;clear FE;have Et:=hide (aa jq.out iM.out);cases hv:dD ws x.name y.row;rotate_left
     ·have Pe:Hid (∀s,F' s=F s++fP ws x (bad.take (q+1)) s):=hide (λs=>by rw[Md.out s,bN HY.out,qY,if_neg (by simp[hv])]);have Cw:=hide (aa jq.out iM.out);have dU:=hide (Qt.out.below Cw.out);obtain ⟨⟨QU,hc0⟩,LY,y0,y1⟩:=MK.out _ iM.out;go_wp2;all_goals (try (exfalso;go_light;simp_all;done));go_roundw
      case rel=>exact ⟨q+1,m,f',F',by omega,by go_num,dU.out,by omega,Pe.out,oN.out.below Et.out⟩
      case measure=>simp[RowKit.intOf];omega
     ·have zT:=hide (jm y.row);have Vf:Hid (Str x.name):=hide wM.out.1;have Mj:=hide λW h=>uE W Ay ny cy y.row h;have Pe:Hid (∀s,(if s=aJ y.row then F' (aJ y.row)++[x.name] else F' s)=F s++fP ws x (bad.take (q+1)) s):=hide (λs=>by
       rw[bN HY.out,qY];by_cases hs:s=aJ y.row
       ·rw[if_pos hs,if_pos ⟨hs.symm,hv⟩,Md.out,hs,List.append_assoc]
       ·rw[if_neg hs,if_neg λh=>hs h.1.symm,Md.out])
      obtain ⟨T,hT⟩: ∃T,aJ y.row=T:=⟨_,rfl⟩;rw[hT]at zT Mj Pe;clear hT;obtain ⟨⟨QU,hc0⟩,LY,y0,y1⟩:=MK.out _ iM.out;go_upto_region 15 with (fail);have Kq:=hide (aa jq.out iM.out);have hnr:=(Qt.out.below Kq.out);have hkr:=(Sg.out.below Kq.out);have htr:=(U7.out.below Kq.out);have RI:=(QY.out.below iM.out).ty;have hpr:=oN.out.below Et.out;obtain ⟨Wr,Tn⟩: ∃W,W=TY:=⟨_,rfl⟩;rw[<-Tn]at hnr hkr htr RI hpr y0 hc0⊢;clear Tn;have UR:=hide hnr;have Si:=hide hkr;have Sr:=hide hpr;have Y0:=hide y0;have C0:=hide hc0;have Vh:Hid (W1.heap.size+1<=wi.heap.size):=hide (Nat.le_trans SI.out oN.out.size);have Pi:Hid (wi.heap.size≠W1.heap.size/\¬bi Wr 9 wi.heap.size):=hide ⟨by have:=Vh.out;omega,λh=>bi.ne RI h (by decide) rfl⟩;have R7:Hid (wo.heap.size≠W1.heap.size/\¬bi Wr 9 wo.heap.size):=hide ⟨M3.out.1,λh=>bi.ne htr h (by decide) rfl⟩;have JS:Hid (m<maxLen/\(F' T).length+1<=maxLen/\((F' T).length+1)*16<=140737488355328):=hide (by
       have h1:=Sb.out T;have h2:=tY ws x (bad.take q) T;have h3:=congrArg List.length (Md.out T);rw[List.length_append]at h3;have h4:(bad.take q).length<=q:=by rw[List.length_take];omega
       simp only[maxLen];omega)
      clear hnr hkr htr RI hpr y0 hc0 y1;refine uK (by kernel_rfl) dZ (by kernel_rfl) (λL a V=> ∃v60 v61 v62 v63 v64 v65 v66 v67 v68 v69 v70 v71 v72,a=⟨#[.agg #[.string r.name,.slice A1 n1 c1,.slice Ak nk ck,.slice A3 n3 c3],.slice (some ⟨bL,oL,none⟩) nc cc,.slice Ao no co,.slice Aw nw cw,.slice Az nz cz,.pointer (some ⟨w.heap.size,0,none⟩),undef,undef,undef,undef,u10,u11,.map (some W1.heap.size),undef,.pointer (some ⟨wo.heap.size,0,none⟩),.pointer (some ⟨w6.heap.size,0,none⟩),.int .i64 0,.slice (some ⟨b9,o9,none⟩) mb cb,undef,.pointer (some ⟨wi.heap.size,0,none⟩),.map (some W1.heap.size),.slice (some ⟨bL,oL,none⟩) nc cc,.int .i64 ↑nc,.int .i64 ↑k,u24,u25,u26,u27,u28,u29,u30,u31,u32,u33,u34,u35,u36,u37,u38,u39,u40,u41,u42,u43,u44,u45,u46,.slice (some ⟨b9,o9,none⟩) mb cb,.int .i64 ↑mb,.int .i64 ↑q,.bool true,.pointer (some ⟨b9,o9+q*2,none⟩),.agg #[.slice Ay ny cy,.int .i64 y.count],.slice Aw nw cw,.pointer (some ⟨wo.heap.size,0,none⟩),.string x.name,.pointer (some ⟨wi.heap.size,0,none⟩),.slice Ay ny cy,.bool false,.bool true,v60,v61,v62,v63,v64,v65,v66,v67,v68,v69,v70,v71,v72,u73,u74,undef],[]⟩/\R15 W1.heap.size W1.heap.size m W1 Wr f' F' T x.name wo.heap.size wi.heap.size Ay ny cy V v60 v61 v62 v63 v64 v65 v66 v67 v68 v69 v70 v71 v72 L) ?_ ?_ ?_
      ·exact ⟨_,_,_,_,_,_,_,_,_,_,_,_,_,rfl,{kp:=(Kp.refl Sr.out.bel).below (Below.refl _ _).drew,f0:=(λq=>by cases q),f1:=(λq=>by cases q),f2:=(λq=>by cases q),f3:=(λq=>by cases q),f4:=(λq=>by cases q),f5:=(λq=>by cases q),f6:=(λq=>by cases q),f7:=(λq=>by cases q),f8:=(λq=>by cases q),f9:=(λq=>by cases q),f10:=(λq=>by cases q),f11:=(λq=>by cases q),s0:=(λ_=>UR.out.below (Below.refl _ _).drew),s1:=(λq=>by cases q),s2:=(λq=>by cases q),o8:=(λq=>by cases q),o12:=(λq=>by cases q),o13:=(λq=>by cases q)}⟩
      ·intro L i a V hi hL hd hI;obtain ⟨v60,v61,v62,v63,v64,v65,v66,v67,v68,v69,v70,v71,v72,rfl,hI⟩:=hI;have hi:i<14:=hi;have HI:=hide hI;have HD:=hide hd;have Hr:=hide hL;clear hI hd hL;obtain rfl|rfl|rfl|rfl|rfl|rfl|rfl|rfl|rfl|rfl|rfl|rfl|rfl|rfl:i=0\/i=1\/i=2\/i=3\/i=4\/i=5\/i=6\/i=7\/i=8\/i=9\/i=10\/i=11\/i=12\/i=13:=by omega
       ·refine wpOp_step rfl (λK1 hK=>?_);have HK:=hide hK;clear hK;go_simp;exact HK.out _ _ ⟨_,_,_,_,_,_,_,_,_,_,_,_,_,rfl,{kp:=HI.out.kp,f0:=(λ_=>rfl),f1:=HI.out.f1,f2:=HI.out.f2,f3:=HI.out.f3,f4:=HI.out.f4,f5:=HI.out.f5,f6:=HI.out.f6,f7:=HI.out.f7,f8:=HI.out.f8,f9:=HI.out.f9,f10:=HI.out.f10,f11:=HI.out.f11,s0:=HI.out.s0,s1:=HI.out.s1,s2:=HI.out.s2,o8:=HI.out.o8,o12:=HI.out.o12,o13:=HI.out.o13}⟩
       ·refine wpOp_step rfl (λK1 hK=>?_);have HK:=hide hK;clear hK;go_simp;exact HK.out _ _ ⟨_,_,_,_,_,_,_,_,_,_,_,_,_,rfl,{kp:=HI.out.kp,f0:=HI.out.f0,f1:=(λ_=>rfl),f2:=HI.out.f2,f3:=HI.out.f3,f4:=HI.out.f4,f5:=HI.out.f5,f6:=HI.out.f6,f7:=HI.out.f7,f8:=HI.out.f8,f9:=HI.out.f9,f10:=HI.out.f10,f11:=HI.out.f11,s0:=HI.out.s0,s1:=HI.out.s1,s2:=HI.out.s2,o8:=HI.out.o8,o12:=HI.out.o12,o13:=HI.out.o13}⟩
       ·obtain rfl:=HI.out.f1 (HD.out 1 (by simp[dZ]));have c0:=HI.out.kp.cell Y0.out Pi.out.1 Pi.out.2;refine wpOp_step rfl (λK1 hK=>?_);have HK:=hide hK;clear hK;go_simp;exact HK.out _ _ ⟨_,_,_,_,_,_,_,_,_,_,_,_,_,rfl,{kp:=HI.out.kp,f0:=HI.out.f0,f1:=HI.out.f1,f2:=(λ_=>rfl),f3:=HI.out.f3,f4:=HI.out.f4,f5:=HI.out.f5,f6:=HI.out.f6,f7:=HI.out.f7,f8:=HI.out.f8,f9:=HI.out.f9,f10:=HI.out.f10,f11:=HI.out.f11,s0:=HI.out.s0,s1:=HI.out.s1,s2:=HI.out.s2,o8:=HI.out.o8,o12:=HI.out.o12,o13:=HI.out.o13}⟩
       ·obtain rfl:=HI.out.f2 (HD.out 2 (by simp[dZ]));refine wpOp_step rfl (λK1 hK=>?_);have HK:=hide hK;clear hK;go_simp;go_at_call 38;refine (Mj.out _ (HI.out.kp.ko2 Si.out).inn).mono ?_;rintro e w1 ⟨rfl,hb⟩;have HB:=hide hb;clear hb;go_wp2_with fail;exact HK.out _ _ ⟨_,_,_,_,_,_,_,_,_,_,_,_,_,rfl,{kp:=HI.out.kp.below HB.out,f0:=HI.out.f0,f1:=HI.out.f1,f2:=HI.out.f2,f3:=(λ_=>rfl),f4:=HI.out.f4,f5:=HI.out.f5,f6:=HI.out.f6,f7:=HI.out.f7,f8:=HI.out.f8,f9:=HI.out.f9,f10:=HI.out.f10,f11:=(λh=>by obtain ⟨g,e1,q1⟩:=HI.out.f11 h;exact ⟨g,e1,λz=>(HB.out.block g (Array.getElem?_eq_some_iff.1 (q1 z)).1).trans (q1 z)⟩),s0:=(λh=>(HI.out.s0 h).below HB.out),s1:=(λh h1=>(HI.out.s1 h h1).below HB.out),s2:=(λh=>absurd (HI.out.o13 h).2.1 (by rw[Hr.out];decide)),o8:=HI.out.o8,o12:=HI.out.o12,o13:=(λh=>by obtain ⟨a1,a2,a3⟩:=HI.out.o13 h;exact ⟨a1,rfl,a3⟩)}⟩
       ·refine wpOp_step rfl (λK1 hK=>?_);have HK:=hide hK;clear hK;go_simp;exact HK.out _ _ ⟨_,_,_,_,_,_,_,_,_,_,_,_,_,rfl,{kp:=HI.out.kp,f0:=HI.out.f0,f1:=HI.out.f1,f2:=HI.out.f2,f3:=HI.out.f3,f4:=(λ_=>rfl),f5:=HI.out.f5,f6:=HI.out.f6,f7:=HI.out.f7,f8:=HI.out.f8,f9:=HI.out.f9,f10:=HI.out.f10,f11:=HI.out.f11,s0:=HI.out.s0,s1:=HI.out.s1,s2:=HI.out.s2,o8:=HI.out.o8,o12:=HI.out.o12,o13:=HI.out.o13}⟩
       ·refine wpOp_step rfl (λK1 hK=>?_);have HK:=hide hK;clear hK;go_simp;exact HK.out _ _ ⟨_,_,_,_,_,_,_,_,_,_,_,_,_,rfl,{kp:=HI.out.kp,f0:=HI.out.f0,f1:=HI.out.f1,f2:=HI.out.f2,f3:=HI.out.f3,f4:=HI.out.f4,f5:=(λ_=>rfl),f6:=HI.out.f6,f7:=HI.out.f7,f8:=HI.out.f8,f9:=HI.out.f9,f10:=HI.out.f10,f11:=HI.out.f11,s0:=HI.out.s0,s1:=HI.out.s1,s2:=HI.out.s2,o8:=HI.out.o8,o12:=HI.out.o12,o13:=HI.out.o13}⟩
       ·obtain rfl:=HI.out.f5 (HD.out 5 (by simp[dZ]));have c0:=HI.out.kp.cell Y0.out Pi.out.1 Pi.out.2;refine wpOp_step rfl (λK1 hK=>?_);have HK:=hide hK;clear hK;go_simp;exact HK.out _ _ ⟨_,_,_,_,_,_,_,_,_,_,_,_,_,rfl,{kp:=HI.out.kp,f0:=HI.out.f0,f1:=HI.out.f1,f2:=HI.out.f2,f3:=HI.out.f3,f4:=HI.out.f4,f5:=HI.out.f5,f6:=(λ_=>rfl),f7:=HI.out.f7,f8:=HI.out.f8,f9:=HI.out.f9,f10:=HI.out.f10,f11:=HI.out.f11,s0:=HI.out.s0,s1:=HI.out.s1,s2:=HI.out.s2,o8:=HI.out.o8,o12:=HI.out.o12,o13:=HI.out.o13}⟩
       ·obtain rfl:=HI.out.f6 (HD.out 6 (by simp[dZ]));refine wpOp_step rfl (λK1 hK=>?_);have HK:=hide hK;clear hK;go_simp;go_at_call 38;refine (Mj.out _ (HI.out.kp.ko2 Si.out).inn).mono ?_;rintro e w1 ⟨rfl,hb⟩;have HB:=hide hb;clear hb;go_wp2_with fail;exact HK.out _ _ ⟨_,_,_,_,_,_,_,_,_,_,_,_,_,rfl,{kp:=HI.out.kp.below HB.out,f0:=HI.out.f0,f1:=HI.out.f1,f2:=HI.out.f2,f3:=HI.out.f3,f4:=HI.out.f4,f5:=HI.out.f5,f6:=HI.out.f6,f7:=(λ_=>rfl),f8:=HI.out.f8,f9:=HI.out.f9,f10:=HI.out.f10,f11:=(λh=>by obtain ⟨g,e1,q1⟩:=HI.out.f11 h;exact ⟨g,e1,λz=>(HB.out.block g (Array.getElem?_eq_some_iff.1 (q1 z)).1).trans (q1 z)⟩),s0:=(λh=>(HI.out.s0 h).below HB.out),s1:=(λh h1=>(HI.out.s1 h h1).below HB.out),s2:=(λh=>absurd (HI.out.o13 h).2.2 (by rw[Hr.out];decide)),o8:=(λ_=>rfl),o12:=HI.out.o12,o13:=(λh=>by obtain ⟨a1,a2,a3⟩:=HI.out.o13 h;exact ⟨a1,a2,rfl⟩)}⟩
       ·obtain rfl:=HI.out.f4 (HD.out 4 (by simp[dZ]));obtain rfl:=HI.out.f7 (HD.out 7 (by simp[dZ]));have GV:L 12=false:=Bool.eq_false_iff.2 λh=>absurd (HI.out.o12 h).1 (by rw[Hr.out];decide);have lk:=(HI.out.s0 GV).look Tryz.underlying91 Tryz.underlying9 (λV=>Tryz.zeroValue43 V) zT.out (V:=V) rfl;refine wpOp_step rfl (λK1 hK=>?_);have HK:=hide hK;clear hK;go_simp;exact HK.out _ _ ⟨_,_,_,_,_,_,_,_,_,_,_,_,_,rfl,{kp:=HI.out.kp,f0:=HI.out.f0,f1:=HI.out.f1,f2:=HI.out.f2,f3:=HI.out.f3,f4:=HI.out.f4,f5:=HI.out.f5,f6:=HI.out.f6,f7:=HI.out.f7,f8:=(λ_=>rfl),f9:=HI.out.f9,f10:=HI.out.f10,f11:=HI.out.f11,s0:=HI.out.s0,s1:=HI.out.s1,s2:=HI.out.s2,o8:=(λ_=>HD.out 7 (by simp[dZ])),o12:=(λh=>⟨rfl,(HI.out.o12 h).2⟩),o13:=HI.out.o13}⟩
       ·refine wpOp_step rfl (λK1 hK=>?_);have HK:=hide hK;clear hK;go_simp;exact HK.out _ _ ⟨_,_,_,_,_,_,_,_,_,_,_,_,_,rfl,{kp:=HI.out.kp,f0:=HI.out.f0,f1:=HI.out.f1,f2:=HI.out.f2,f3:=HI.out.f3,f4:=HI.out.f4,f5:=HI.out.f5,f6:=HI.out.f6,f7:=HI.out.f7,f8:=HI.out.f8,f9:=(λ_=>rfl),f10:=HI.out.f10,f11:=HI.out.f11,s0:=HI.out.s0,s1:=HI.out.s1,s2:=HI.out.s2,o8:=HI.out.o8,o12:=HI.out.o12,o13:=HI.out.o13}⟩
       ·obtain rfl:=HI.out.f9 (HD.out 9 (by simp[dZ]));have c0:=HI.out.kp.cell C0.out R7.out.1 R7.out.2;refine wpOp_step rfl (λK1 hK=>?_);have HK:=hide hK;clear hK;go_simp;exact HK.out _ _ ⟨_,_,_,_,_,_,_,_,_,_,_,_,_,rfl,{kp:=HI.out.kp,f0:=HI.out.f0,f1:=HI.out.f1,f2:=HI.out.f2,f3:=HI.out.f3,f4:=HI.out.f4,f5:=HI.out.f5,f6:=HI.out.f6,f7:=HI.out.f7,f8:=HI.out.f8,f9:=HI.out.f9,f10:=(λ_=>rfl),f11:=HI.out.f11,s0:=HI.out.s0,s1:=HI.out.s1,s2:=HI.out.s2,o8:=HI.out.o8,o12:=HI.out.o12,o13:=HI.out.o13}⟩
       ·obtain rfl:=HI.out.f10 (HD.out 10 (by simp[dZ]));have GV:L 12=false:=Bool.eq_false_iff.2 λh=>absurd (HI.out.o12 h).2 (by rw[Hr.out];decide);refine wpOp_step rfl (λK1 hK=>?_);have HK:=hide hK;clear hK;go_simp;exact HK.out _ _ ⟨_,_,_,_,_,_,_,_,_,_,_,_,_,rfl,{kp:=HI.out.kp.below ae,f0:=HI.out.f0,f1:=HI.out.f1,f2:=HI.out.f2,f3:=HI.out.f3,f4:=HI.out.f4,f5:=HI.out.f5,f6:=HI.out.f6,f7:=HI.out.f7,f8:=HI.out.f8,f9:=HI.out.f9,f10:=HI.out.f10,f11:=(λ_=>⟨_,rfl,λ_=>heap_alloc_new _ _⟩),s0:=(λh=>(HI.out.s0 h).below ae),s1:=(λh=>absurd h (by rw[GV];decide)),s2:=(λh=>absurd (HI.out.o13 h).1 (by rw[GV];decide)),o8:=HI.out.o8,o12:=(λh=>⟨(HI.out.o12 h).1,rfl⟩),o13:=HI.out.o13}⟩
       ·obtain rfl:=HI.out.f8 (HD.out 8 (by simp[dZ]));obtain ⟨g,rfl,hg⟩:=HI.out.f11 (HD.out 11 (by simp[dZ]));have HG:=hide (hg Hr.out);have CB:=hide (HI.out.s0 Hr.out);clear hg;refine wpOp_step rfl (λK1 hK=>?_);have HK:=hide hK;clear hK;refine mD V rfl _ _ _ rfl CY (by simp) (CB.out.own T) (by simp[Act.eval,Act.put]) (some ⟨g,0,none⟩) 1 1 [.string x.name] [x.name] (by simp[Act.eval,Act.put]) (by intro h;cases h) (LU HG.out) (Cells.one ⟨rfl,Vf.out⟩) rfl JS.out.2.1 JS.out.2.2 ?_;intro v9 w9 vV fo xe pE;have Aa:=hide vV;have O9:=hide xe;have HAT:=hide pE;clear vV fo xe pE;exact HK.out _ _ ⟨_,_,_,_,_,_,_,_,_,_,_,_,_,rfl,{kp:=HI.out.kp.own O9.out (λk h=>⟨((CB.out.own T).ty h).1,.inr ((CB.out.own T).ty h).2⟩),f0:=HI.out.f0,f1:=HI.out.f1,f2:=HI.out.f2,f3:=HI.out.f3,f4:=HI.out.f4,f5:=HI.out.f5,f6:=HI.out.f6,f7:=HI.out.f7,f8:=HI.out.f8,f9:=HI.out.f9,f10:=HI.out.f10,f11:=(λ_=>⟨g,rfl,λh=>absurd h (by simp)⟩),s0:=(λh=>absurd h (by simp)),s1:=(λ_ _=>⟨V,CB.out,O9.out,Aa.out,HAT.out.imp id λh=>⟨_,h,Nat.le_refl _⟩⟩),s2:=(λh=>absurd (HI.out.o13 h).1 (by rw[Hr.out];decide)),o8:=HI.out.o8,o12:=(λ_=>⟨HD.out 8 (by simp[dZ]),HD.out 11 (by simp[dZ])⟩),o13:=(λh=>absurd (HI.out.o13 h).1 (by rw[Hr.out];decide))}⟩
       ·obtain rfl:=HI.out.f0 (HD.out 0 (by simp[dZ]));obtain rfl:=HI.out.f3 (HD.out 3 (by simp[dZ]));have GV:=HD.out 12 (by simp[dZ]);obtain ⟨V0,hn0,hg0,ho0,Jv⟩:=HI.out.s1 GV Hr.out;obtain ⟨w7,hrun,PP,Bf⟩:=hn0.push Tryz.underlying91 Tryz.underlying9 zT.out JS.out.1 hg0 ho0 Jv;have UQ:=hide PP;have GI:=hide Bf;clear hn0 hg0 ho0 Jv PP Bf;refine wpOp_step rfl (λK1 hK=>?_);have HK:=hide hK;clear hK;go_simp;exact HK.out _ _ ⟨_,_,_,_,_,_,_,_,_,_,_,_,_,rfl,{kp:=HI.out.kp.own GI.out (λk h=>by injection h with h;subst h;exact ⟨Nat.le_refl _,.inl rfl⟩),f0:=HI.out.f0,f1:=HI.out.f1,f2:=HI.out.f2,f3:=HI.out.f3,f4:=HI.out.f4,f5:=HI.out.f5,f6:=HI.out.f6,f7:=HI.out.f7,f8:=HI.out.f8,f9:=HI.out.f9,f10:=HI.out.f10,f11:=(λh=>by obtain ⟨g,e1,q1⟩:=HI.out.f11 h;exact ⟨g,e1,λz=>absurd z (by rw[GV];decide)⟩),s0:=(λh=>absurd h (by rw[GV];decide)),s1:=(λ_ h=>absurd h (by simp)),s2:=(λ_=>⟨_,UQ.out⟩),o8:=HI.out.o8,o12:=HI.out.o12,o13:=(λ_=>⟨GV,HD.out 3 (by simp[dZ]),HI.out.o8 (HI.out.o12 GV).1⟩)}⟩
      ·intro L a V hL hI;obtain ⟨v60,v61,v62,v63,v64,v65,v66,v67,v68,v69,v70,v71,v72,rfl,hI⟩:=hI;obtain ⟨f2,h2⟩:=hI.s2 (hL 13 (by show 13<14;omega));have gF:=hide h2;have zR:=hide (Sr.out.trans hI.kp);clear h2 hI hL;go_wp2;go_roundw
       case rel=>exact ⟨q+1,m+1,f2,_,by omega,by go_num,gF.out,by omega,Pe.out,zR.out⟩
       case measure=>simp[RowKit.intOf];omega
    ·have Ut:Hid (∀s,F' s=lv r others ws zs (l.take (k+1)) s):=hide (λs=>by
      rw[Md.out s,List.take_of_length_le (by rw[JR.out];omega),Sa.out s,bN HX.out,Ec,Ml.out])
     have Us:Hid (∀s,(F' s).length<=(k+1)*4096):=hide (λs=>by
      rw[Md.out s,List.length_append,List.take_of_length_le (by rw[JR.out];omega)];have h1:=Sb.out s;have h2:=tY ws x bad s;have h3:=JR.out;omega)
     have dU:=hide Qt.out;have hzz:W1.heap.size+1<=wi.heap.size:=Nat.le_trans SI.out oN.out.size;go_wp2;go_roundw
     case rel=>exact ⟨k+1,m,f',F',by omega,by go_num,dU.out,by omega,Ut.out,Us.out,Ul.out,hbi,hzz⟩
     case measure=>simp[RowKit.intOf];omega
  ·obtain rfl:E=0:=by rw[xQ.out,List.drop_eq_nil_of_le (by rw[HLEN.out];omega)];rfl
   have UT:Hid (∀s,F s=lv r others ws zs l s):=hide (λs=>by rw[Sa.out s,List.take_of_length_le (by rw[HLEN.out];omega)]);have dU:=hide Pf.out;have oM:=hide (aa lI.out lM.out);obtain ⟨LR,g0,g1,g2,g3⟩:=o2.out _ lM.out;go_wp2;go_ret2;exact ⟨⟨_,rfl,_,rfl,n,f,(dU.out.congr UT.out).rebase MV.out.size⟩,oM.out⟩
theorem CX:Elem Tryz.prog 51 57 4 72:=mM (.agg #[.string ⟨#[]⟩,.slice none 0 0,.int .i64 0,.slice none 0 0]) Tryz.underlying51 (by kernel_rfl) rfl (by decide)
theorem ru {α:Type}[Rep α]{w w':World}{B n c:Nat}{O:Nat->Prop}{T:List TypeId}{A:Option Addr}{xs:List α}(hs:Sl w (BS B O T w) A n c xs)(hB:B<=w.heap.size)(hb:Below w.heap.size w w'):Sl w' (BS B O T w') A n c xs:=
 (Sl.keep (λk hk=>hb.block k (hk.lt hB)) hs).mono λk hk=>hk.below hB hb
theorem OL.besideT {α β:Type}[Rep α][Rep β]{e e':TypeId}{B:Nat}{O O':Nat->Prop}{T T':List TypeId}{w w1:World}{a b:Value}{xs:List α}{ys:List β}(hb:OL e' B O T w b ys)(ha:OL e B O' T' w a xs)(hne:e≠e')(hT:e∉T)(hg:w.grownBy w1 a.ownBlock):OL e' B O T w1 b ys:=
 hb.grown hg λk hk=>⟨λq=>bi.ne (ha.ty hk).2 (hb.ty q).2 hne rfl,λq=>by
  have h1:=ha.ty hk;rcases q with ⟨_,q⟩|⟨_,t,ht,q⟩
  ·omega
  ·exact bi.ne h1.2 q (λe1=>hT (e1▸ht)) rfl⟩
theorem De {α β:Type}(p:α->Bool)(g:α->β)(l:List α)(x:α):((l++[x]).filter p).map g=if p x=true then (l.filter p).map g++[g x] else (l.filter p).map g:=by
 rw[List.filter_append,List.filter_cons];cases p x <;> simp
theorem yA (w:World)(r:Rel)(A1:Option Addr)(n1 c1:Nat)(hc:In w A1 n1 c1 r.columns)(Ak:Option Addr)(nk ck:Nat)(A3:Option Addr)(n3 c3:Nat)(hr:In w A3 n3 c3 r.rows)(Ac:Option Addr)(nc cc:Nat)(l:List Chk)(hl:In w Ac nc cc l)(Ao:Option Addr)(no co:Nat)(others:List Rel)(ho:In w Ao no co others)(Aw:Option Addr)(nw cw:Nat)(ws:List Wvr)(hws:In w Aw nw cw ws)(Az:Option Addr)(nz cz:Nat)(zs:List Zone)(hz:In w Az nz cz zs)(hw:Words w)(hb1:n1<=4096)(hb2:nc<=4096)(hb3: ∀c∈l,c.cols.length<=4096/\c.ocols.length<=4096)(hb4: ∀o∈others,o.columns.length<=4096)(hrn:Str r.name):
  Calls Tryz.prog 14 #[.agg #[.string r.name,.slice A1 n1 c1,.slice Ak nk ck,.slice A3 n3 c3],.slice Ac nc cc,.slice Ao no co,.slice Aw nw cw,.slice Az nz cz] w
   λe w'=>(∃A7 m7 c7 A8 m8 c8,e=.returned (.tuple #[.slice A7 m7 c7,.slice A8 m8 c8,.int .i64 (sN r l others ws zs).1])/\In w' A7 m7 c7 (sN r l others ws zs).2.1/\In w' A8 m8 c8 (sN r l others ws zs).2.2)/\Below w.heap.size w w':=by
 have Ml:=hide λW Ac nc cc L hL e1 e2 h1 h2 h3 h4 h5 h6=>vz W r A1 n1 c1 h1 Ak nk ck A3 n3 c3 h2 Ac nc cc L hL Ao no co others h3 Aw nw cw ws h4 Az nz cz zs h5 h6 hb1 e1 e2 hb4;have vE:Hid (∀c∈gQ l r.name,c.cols.length<=4096/\c.ocols.length<=4096):=hide (λc hc=>hb3 c (List.mem_filter.1 hc).1);have BP:Hid ((gQ l r.name).length<=4096):=hide (Nat.le_trans (List.length_filter_le _ _) (by rw[hl.len];exact hb2));have xR:=hide λW h=>uk W Ac nc cc l h r.name hb2;have HD:Hid (sN r l others ws zs=if lu r others zs (gQ l r.name)≠0 then (lu r others zs (gQ l r.name),[],[]) else if au r.rows≠0 then (au r.rows,[],[]) else if cO r.rows=false then (8,[],[]) else (0,r.rows.filter (λx=>(lv r others ws zs (gQ l r.name) (aJ x.row)).isEmpty),(r.rows.filter λx=>!(lv r others ws zs (gQ l r.name) (aJ x.row)).isEmpty).map λx=>⟨r.name,x.row,x.count,lv r others ws zs (gQ l r.name) (aJ x.row)⟩)):=hide rfl;obtain ⟨R,hR⟩: ∃R,sN r l others ws zs=R:=⟨_,rfl⟩;rw[hR]at HD⊢;clear hR;obtain ⟨own,hown⟩: ∃o,gQ l r.name=o:=⟨_,rfl⟩;rw[hown]at HD vE BP xR;clear hown;obtain ⟨VE,Rm⟩: ∃e,lu r others zs own=e:=⟨_,rfl⟩;have GK:=hide Rm;rw[Rm]at HD;obtain ⟨NN,Rj⟩: ∃f,lv r others ws zs own=f:=⟨_,rfl⟩;have KI:=hide Rj;rw[Rj]at HD;clear Rm Rj hb3 hb4;have h63:=hr.le;have HLEN:=hide hr.len;have QB:=hide hrn;go_enter Tryz.func14,Tryz.ntmps14;have HL:=hide hl;clear hl;have HO:=hide ho;clear ho;have QP:=hide hws;clear hws;have HZ:=hide hz;clear hz;have HW:=hide hw;clear hw;have HC:=hide hc;clear hc;have HR:=hide hr;clear hr;go_upto_region 1 with (fail);obtain ⟨W1,hW1⟩: ∃W,W=w.alloc (.cells #[.string r.name,.slice A1 n1 c1,.slice Ak nk ck,.slice A3 n3 c3] 29):=⟨_,rfl⟩;obtain ⟨hbW1,gZ,g0,g1,g2,g3⟩:=jN hW1 rfl;rw[<-hW1];clear hW1;have lI:=hide hbW1;clear hbW1;have LR:=lt_of_cell g0;have SV:=hide g0;have SX:=hide g1;have SY:=hide g2;have S9:=hide g3;have J5:=hide LR;have Ke:True:=trivial;go_region_held3 (λV=>V.cell? ⟨w.heap.size,0,none⟩=some (.string r.name)/\V.cell? ⟨w.heap.size,1,none⟩=some (.slice A1 n1 c1)/\V.cell? ⟨w.heap.size,2,none⟩=some (.slice Ak nk ck)/\V.cell? ⟨w.heap.size,3,none⟩=some (.slice A3 n3 c3))
  (first|exact ⟨aj NQ.out J5.out SV.out,aj NQ.out J5.out SX.out,aj NQ.out J5.out SY.out,aj NQ.out J5.out S9.out⟩|exact ⟨aj EA.out J5.out SV.out,aj EA.out J5.out SX.out,aj EA.out J5.out SY.out,aj EA.out J5.out S9.out⟩|exact ⟨g0,g1,g2,g3⟩)
  (first|(clear Ke;go_at_call 34;refine (xR.out _ (by exact (HL.out.below lI.out).below (Below.refl _ _).drew)).mono ?_;rintro e w3 ⟨⟨v5,rfl,Tx⟩,hb3⟩;have EA:=hide (ak hb3);obtain ⟨A5,c5,rfl,hi5⟩:=Tx.inn;obtain ⟨m5,FP⟩: ∃m,own.length=m:=⟨_,rfl⟩;have Me:=hide FP;rw[FP]at hi5;rw[FP];have Qm:=hide hi5;clear Tx hi5 FP;clear hb3;have RO:True:=trivial)|(clear RO;go_at_call 33;refine (Ml.out _ _ _ _ own (by exact Qm.out) (by rw[<-Me.out];exact BP.out) vE.out (by exact (HC.out.below lI.out).below EA.out) (by exact (HR.out.below lI.out).below EA.out) (by exact (HO.out.below lI.out).below EA.out) (by exact (QP.out.below lI.out).below EA.out) (by exact (HZ.out.below lI.out).below EA.out) (by exact (HW.out.below lI.out).below EA.out)).mono ?_;rintro e w4 ⟨⟨mp,rfl,hmp⟩,hb4⟩;have NQ:=hide (aa EA.out hb4);rw[GK.out]at hmp;rw[GK.out];have Sj:=hide hmp;clear hmp;clear hb4;have TS:True:=trivial))
 have Ot:=NQ.out;clear TS;have o6:=rJ g0 g1 g2 g3;have lJ:=hide Ot;clear Ot;by_cases hv0:VE=0;rotate_left
 ·have q0:(VE==0)=false:=by simpa using hv0
  have q1:(VE != 0)=true:=by simpa using hv0
  obtain rfl:R=(VE,[],[]):=by rw[HD.out,if_pos hv0]
  have oM:=hide (aa lI.out lJ.out);obtain ⟨LR,g0,g1,g2,g3⟩:=o6.out _ lJ.out;go_wp2;all_goals (try (exfalso;go_light;simp_all;done))
  go_ret3
  exact ⟨⟨none,0,0,none,0,0,rfl,In.nil_,In.nil_⟩,oM.out⟩
 have M7:=hide (Sj.out hv0);subst hv0;obtain ⟨bm,nm,f,rfl,hnm⟩:=M7.out;rw[KI.out]at hnm;have Pf:=hide hnm;clear hnm;clear Sj M7;have HD2:Hid (R=if au r.rows≠0 then (au r.rows,[],[]) else if cO r.rows=false then (8,[],[]) else (0,r.rows.filter (λx=>(NN (aJ x.row)).isEmpty),(r.rows.filter λx=>!(NN (aJ x.row)).isEmpty).map λx=>⟨r.name,x.row,x.count,NN (aJ x.row)⟩)):=hide (by rw[HD.out];simp);clear HD;obtain ⟨LR,g0,g1,g2,g3⟩:=o6.out _ lJ.out;go_wp2_with fail;have Qd:=hide (aa lI.out lJ.out);refine (wQ _ A3 n3 c3 r.rows (HR.out.below Qd.out)).mono ?_;rintro e w8 ⟨rfl,Bd⟩;have dC:=hide Bd;clear Bd;obtain ⟨BE,Ra⟩: ∃e,au r.rows=e:=⟨_,rfl⟩;have zQ:=hide Ra;rw[Ra]at HD2⊢;clear Ra;by_cases hv0:BE=0;rotate_left
 ·have q1:(BE != 0)=true:=by simpa using hv0
  obtain rfl:R=(BE,[],[]):=by rw[HD2.out,if_pos hv0]
  have oM:=hide (aa (aa lI.out lJ.out) dC.out);have GZ:=hide (aa lJ.out dC.out);obtain ⟨LR,g0,g1,g2,g3⟩:=o6.out _ GZ.out;go_wp2;all_goals (try (exfalso;go_light;simp_all;done))
  go_ret3
  exact ⟨⟨none,0,0,none,0,0,rfl,In.nil_,In.nil_⟩,oM.out⟩
 subst hv0;have zW:=hide (aa lJ.out dC.out);obtain ⟨LR,g0,g1,g2,g3⟩:=o6.out _ zW.out;go_wp2_with fail;have ni:=hide (aa (aa lI.out lJ.out) dC.out);refine (qU _ A3 n3 c3 r.rows (HR.out.below ni.out)).mono ?_;rintro e RZ ⟨rfl,Df⟩;have nC:=hide (aa dC.out Df);clear Df;cases hit:cO r.rows
 ·obtain rfl:R=(8,[],[]):=by rw[HD2.out,hit];simp
  have oM:=hide (aa (aa lI.out lJ.out) nC.out);have P8:=hide (aa lJ.out nC.out);obtain ⟨LR,g0,g1,g2,g3⟩:=o6.out _ P8.out;go_wp2;all_goals (try (exfalso;go_light;simp_all;done))
  go_ret3
  exact ⟨⟨none,0,0,none,0,0,rfl,In.nil_,In.nil_⟩,oM.out⟩
 have HD3:Hid (R=(0,r.rows.filter (λx=>(NN (aJ x.row)).isEmpty),(r.rows.filter λx=>!(NN (aJ x.row)).isEmpty).map λx=>⟨r.name,x.row,x.count,NN (aJ x.row)⟩)):=hide (by rw[HD2.out,hit];simp);obtain ⟨hrl,VD⟩:=eB zQ.out hit;have OH:n3<=4096:=by rw[<-HLEN.out];exact hrl
 have HRW:Hid (∀x∈r.rows,x.row.length<=12):=hide (λx hx=>by
  have h1:=((dM.1 zQ.out).2.1 x hx).1;rw[aA]at h1;by_cases q:12<x.row.length\/x.count < -65536\/65536<x.count
  ·rw[if_pos q]at h1;omega
  ·omega)
 clear HD2 hit hrl VD;obtain ⟨Wb,Oc⟩: ∃W,W=RZ:=⟨_,rfl⟩;have hnw:=(Pf.out.below nC.out);have xM:=hide (aa (aa lI.out lJ.out) nC.out);have hrw:=(HR.out.below xM.out);have hbw:=(aa (aa lI.out lJ.out) nC.out);have Km:=hide (aa lJ.out nC.out);obtain ⟨LR,g0,g1,g2,g3⟩:=o6.out _ Km.out;rw[<-Oc]at hnw hrw hbw g0 g1 g2 g3 LR⊢;clear Oc;have jr:=hide hbw;have KJ:=hide hnw;have Ph:=hide hrw;clear hrw;have Mr:=lt_of_cell g0;go_wp2;all_goals (try (exfalso;go_light;simp_all;done));go_loopw [15,16,48] (λt h i wr=> ∃(k:Nat) (ys:List Ent) (qs:List Quar),k<=n3/\i=.int .i64 k/\ys=(r.rows.take k).filter (λx=>(NN (aJ x.row)).isEmpty)/\qs=((r.rows.take k).filter λx=>!(NN (aJ x.row)).isEmpty).map (λx=>⟨r.name,x.row,x.count,NN (aJ x.row)⟩)/\ys.length<=k/\qs.length<=k/\OL 50 Wb.heap.size (λ_=>False) [36] wr t ys/\OL 57 Wb.heap.size (λ_=>True) [36] wr h qs/\Below Wb.heap.size Wb wr) (λ_ _ i _=>n3-(RowKit.intOf i).toNat)
 case atStart=>exact ⟨0,[],[],Nat.zero_le _,rfl,by simp,by simp,by simp,by simp,OL.nil (Nat.le_refl _),OL.nil (Nat.le_refl _),Below.refl _ _⟩
 case round=>
  obtain ⟨k,ys,qs,hk,rfl,hys,TA,hyl,VA,hot,Ty,hb⟩:=hrel;have Ew:=hide hys;have Qy:=hide TA;clear hys TA;have RX:=EN g0 g3;have kH:=hide hb;clear hb;have Mf:=hide hot;clear hot;have Qu:=hide Ty;clear Ty;by_cases hlt:k<n3
  ·obtain ⟨b,off,x,rfl,hBb,HX,Ax,An,R4,e0,e1,e2,e3⟩:=(Ph.out.below kH.out).ent hlt;have k0:(0:Int)<=(k:Int):=by omega
   have k1:(k:Int)<(n3:Int):=by omega
   have hxm:=aF HX.out;have hrl:An<=1048576:=by have h1:=HRW.out x hxm;rw[e2.len]at h1;omega
   have JQ:=hide e3;have HE2:=hide e2;clear e2;have Qq:=hide kH.out;obtain ⟨Mr,g0,g3⟩:=RX.out _ kH.out;go_wp2_with fail;obtain ⟨W5,nZ⟩: ∃W,W=wr.alloc (.cells #[.slice Ax An R4,.int .i64 x.count] 50):=⟨_,rfl⟩;obtain ⟨jg,yf,x0,x1⟩:=wR nZ rfl;rw[<-nZ];clear nZ;have Af:=hide jg;clear jg;have L5:=lt_of_cell x0;clear e0 e1;have Qc:=hide (aa kH.out Af.out);obtain ⟨Mr,g0,g3⟩:=RX.out _ Qc.out;go_wp2_with fail;refine (vK _ Ax An R4 x.row (HE2.out.below Af.out) hrl).mono ?_;rintro e PX ⟨⟨A6,c6,rfl,hs6⟩,Oe⟩;have MK:=xL (EN g0 g3) (EN x0 x1);have iM:=hide Oe;clear Oe;have Oy:In PX A6 An c6 x.row:=In.of_sl hs6 λk hk=>hk.2.lt;have Nk:=hide (hs6.mono λk hk=>show BS Wb.heap.size (λ_=>False) [36] PX k from .inr ⟨Nat.le_trans Qq.out.size (by have:=hk.1;have:=yf.out;omega),_,by simp,hk.2⟩);clear hs6;have Ee:=hide (show Wb.heap.size<=PX.heap.size from (aa (aa kH.out Af.out) iM.out).size);obtain ⟨W6,Ro⟩: ∃W,W=PX:=⟨_,rfl⟩;have R9:=hide Ro;rw[<-Ro]at Nk Ee;clear Ro;have Uz:=hide Oy;clear Oy;have zT:=hide (jm x.row);have SH:Hid (∀(p:Ent->Bool) (g:Ent->Quar),((r.rows.take (k+1)).filter p).map g=if p x=true then ((r.rows.take k).filter p).map g++[g x] else ((r.rows.take k).filter p).map g):=hide (λp g=>by rw[bN HX.out,De]);have SG:Hid (∀(p:Ent->Bool),(r.rows.take (k+1)).filter p=if p x=true then (r.rows.take k).filter p++[x] else (r.rows.take k).filter p):=hide (λp=>by rw[bN HX.out,List.filter_append,List.filter_cons];cases p x <;> simp);have Mj:=hide λW h=>uE W A6 An c6 x.row h;obtain ⟨T,hT⟩: ∃T,aJ x.row=T:=⟨_,rfl⟩;have HT:=hide hT;rw[hT]at Mj zT;clear hT;obtain ⟨⟨Mr,g0,g3⟩,L5,x0,x1⟩:=MK.out _ iM.out;go_wp2_with fail;refine (Mj.out _ Uz.out).mono ?_;rintro e JJ ⟨rfl,LD⟩;have NF:=hide LD;have rF:=hide LD;clear LD;have O7:=hide NF.out;have Kt:=hide (aa (aa (aa kH.out Af.out) iM.out) rF.out);have lk:=KJ.out.look Tryz.underlying91 Tryz.underlying9 (λV=>Tryz.zeroValue43 V) zT.out (V:=JJ) ((aa (aa (aa kH.out Af.out) iM.out) rF.out).block _ KJ.out.lt);obtain ⟨Al,cl,hfl,hsl⟩:=(KJ.out.own T).sl;rw[hfl]at lk;obtain ⟨ml,PM⟩: ∃m,(NN T).length=m:=⟨_,rfl⟩;rw[PM]at lk hsl;have JS:=hide PM;have Mh:=hide hsl;clear hfl PM hsl;have OW:=hyl;have VC:=VA;have FL:ys.length+1<=maxLen:=by simp only[maxLen];omega
   have FM:(ys.length+1)*32<=140737488355328:=by omega
   have Rx:qs.length+1<=maxLen:=by simp only[maxLen];omega
   have Ry:(qs.length+1)*72<=140737488355328:=by omega
   by_cases hm0:ml=0
   ·have hem:(NN (aJ x.row)).isEmpty=true:=by rw[HT.out,List.isEmpty_iff];exact List.eq_nil_of_length_eq_zero (by rw[JS.out];exact hm0)
    have CB:Hid (ys++[x]=(r.rows.take (k+1)).filter (λx=>(NN (aJ x.row)).isEmpty)):=hide (by rw[SG.out,if_pos hem,Ew.out]);have gF:Hid (qs=((r.rows.take (k+1)).filter λx=>!(NN (aJ x.row)).isEmpty).map (λx=>⟨r.name,x.row,x.count,NN (aJ x.row)⟩)):=hide (by rw[SH.out,if_neg (by simp[hem]),Qy.out]);have Nh:Hid (Rep.rd JJ (BS Wb.heap.size (λ_=>False) [36] JJ) [.slice A6 An c6,.int .i64 x.count] x):=hide ⟨A6,An,c6,rfl,ru Nk.out Ee.out (R9.out▸O7.out),JQ.out⟩;have MN:=hide (aa (aa Af.out iM.out) rF.out);have Mi:=hide (Mf.out.below MN.out);have Pb:=hide (Qu.out.below MN.out);subst hm0;clear hem;have Cx:=hide (aa iM.out rF.out);obtain ⟨⟨Mr,g0,g3⟩,L5,x0,x1⟩:=MK.out _ Cx.out;go_wp2_with (at_builtin;refine bf _ rfl _ _ _ rfl vM (by decide) JJ _ rfl Mi.out rfl rfl x Nh.out FL FM ?_;intro v9 w9 vV fo xe pE);all_goals (try (exfalso;go_light;simp_all;done));have Aa:=hide vV;have zZ:=hide (Kt.out.trans fo);have Qx:=hide (Pb.out.besideT Mi.out (by decide) (by decide) xe);clear vV fo xe pE;go_wp2;all_goals (try (exfalso;go_light;simp_all;done));go_roundw
    case rel=>exact ⟨k+1,ys++[x],qs,by omega,by go_num,CB.out,gF.out,by simp;omega,by omega,Aa.out,Qx.out,zZ.out⟩
    case measure=>simp[RowKit.intOf];omega
   ·have hem:(NN (aJ x.row)).isEmpty=false:=by
     rw[HT.out];cases h:NN T with
     |nil=>exact absurd (by rw[<-JS.out,h];rfl) hm0
     |cons _ _=>rfl
    have CB:Hid (ys=(r.rows.take (k+1)).filter (λx=>(NN (aJ x.row)).isEmpty)):=hide (by rw[SG.out,if_neg (by simp[hem]),Ew.out]);have gF:Hid (qs++[⟨r.name,x.row,x.count,NN T⟩]=((r.rows.take (k+1)).filter λx=>!(NN (aJ x.row)).isEmpty).map (λx=>⟨r.name,x.row,x.count,NN (aJ x.row)⟩)):=hide (by rw[SH.out,if_pos (by simp[hem]),Qy.out,HT.out]);have QH:Hid (Sl JJ (BS Wb.heap.size (λ_=>True) [36] JJ) Al ml cl (NN T)):=hide ((Sl.keep (λk hk=>Kt.out.block k (hk.lt (KJ.out.own T).base)) Mh.out).mono λk hk=>.inl ⟨trivial,hk.lt (KJ.out.own T).base⟩);have Nh:Hid (Rep.rd JJ (BS Wb.heap.size (λ_=>True) [36] JJ) [.string r.name,.slice A6 An c6,.int .i64 x.count,.slice Al ml cl] (⟨r.name,x.row,x.count,NN T⟩:Quar)):=hide ⟨A6,An,c6,Al,ml,cl,rfl,(ru Nk.out Ee.out (R9.out▸O7.out)).mono (λk hk=>by
     rcases hk with ⟨hk,_⟩|hk
     ·exact hk.elim
     ·exact .inr hk),QH.out,QB.out,JQ.out⟩
    have MO:=hide (aa (aa Af.out iM.out) rF.out);have Mi:=hide (Mf.out.below MO.out);have Pb:=hide (Qu.out.below MO.out);have d0:(0:Int)<(ml:Int):=by omega
    clear hem;have Kr:=hide (aa iM.out rF.out);obtain ⟨⟨Mr,g0,g3⟩,L5,x0,x1⟩:=MK.out _ Kr.out;go_wp2_with (at_builtin;refine bf _ rfl _ _ _ rfl CX (by decide) JJ _ rfl Pb.out rfl rfl (⟨r.name,x.row,x.count,NN T⟩:Quar) Nh.out Rx Ry ?_;intro v9 w9 vV fo xe pE);all_goals (try (exfalso;go_light;simp_all;done));have Aa:=hide vV;have zZ:=hide (Kt.out.trans fo);have Qx:=hide (Mi.out.besideT Pb.out (by decide) (by decide) xe);clear vV fo xe pE;go_wp2;all_goals (try (exfalso;go_light;simp_all;done));go_roundw
    case rel=>exact ⟨k+1,ys,qs++[⟨r.name,x.row,x.count,NN T⟩],by omega,by go_num,CB.out,gF.out,by omega,by simp;omega,Qx.out,Aa.out,zZ.out⟩
    case measure=>simp[RowKit.intOf];omega
  ·have QK:Hid (r.rows.take k=r.rows):=hide (List.take_of_length_le (by rw[HLEN.out];omega));obtain rfl:R=(0,ys,qs):=by rw[HD3.out,Ew.out,Qy.out,QK.out]
   obtain ⟨Ay,cy,rfl,Tv⟩:=Mf.out.inn;obtain ⟨Aq,cq,rfl,Tu⟩:=Qu.out.inn;have UH:=hide Tv;have UF:=hide Tu;have Qe:=hide (aa jr.out kH.out);clear Tv Tu;obtain ⟨Mr,g0,g3⟩:=RX.out _ kH.out;go_wp2
   go_ret3
   exact ⟨⟨_,_,_,_,_,_,rfl,UH.out,UF.out⟩,Qe.out⟩
end Go.Proofs.YtopjjlmfilgngaaGreatDoor
