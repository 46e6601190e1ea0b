/-
  quarantine.violators: the names of the checks that each row violates. quarantine.Divide.
-/
import Derived.Deep.DeepCutAuto
import Derived.Deep.CutRange
import Derived.Test.YtopjjlmfilgngaaGreatDoorGar
import Derived.Test.YtopjjlmfilgngaaGreatDoorGak
import Derived.Test.YtopjjlmfilgngaaGreatDoorInvR
import Derived.Test.YtopjjlmfilgngaaGreatDoorGat
import Derived.Test.YtopjjlmfilgngaaGreatDoorGac
import Derived.Test.YtopjjlmfilgngaaGreatDoorNorm
namespace Go.Proofs.YtopjjlmfilgngaaGreatDoor
set_option maxHeartbeats 8000000
set_option maxRecDepth 100000
open Go.RowKit Go.Maps
set_option linter.unusedSimpArgs false
set_option linter.unusedVariables false
theorem zi:Elem Tryz.prog 43 9 1 16:=jR (.string ⟨#[]⟩) Tryz.underlying43 (by kernel_rfl) rfl (by decide)
structure Kp (e b:Nat) (W1 Wi V:World):Prop where
 bel:Below W1.heap.size W1 V
 size:Wi.heap.size<=V.heap.size
 blk: ∀k,k<Wi.heap.size->k≠b->¬aZ Wi e k->V.heap[k]?=Wi.heap[k]?
section
variable {e b g o:Nat}{W1 Wi V V':World}
theorem Kp.refl (h:Below W1.heap.size W1 Wi):Kp e b W1 Wi Wi:=⟨h,Nat.le_refl _,λ_ _ _ _=>rfl⟩
theorem Kp.below (h:Kp e b W1 Wi V)(hb:Below V.heap.size V V'):Kp e b W1 Wi V':=
 ⟨aa h.bel hb,Nat.le_trans h.size hb.size,λk h1 h2 h3=>(hb.block k (Nat.lt_of_lt_of_le h1 h.size)).trans (h.blk k h1 h2 h3)⟩
theorem Kp.own {row:Option Nat}(h:Kp e b W1 Wi V)(hg:V.grownBy V' row)(hr: ∀k,row=some k->W1.heap.size<=k/\(k=b\/aZ V e k)):Kp e b W1 Wi V':=
 ⟨h.bel.grown hg h.bel.size λk q=>(hr k q).1,Nat.le_trans h.size hg.size,λk h1 h2 h3=>(hg.block k (Nat.lt_of_lt_of_le h1 h.size) λq=>by
  rcases (hr k q.symm).2 with q|⟨c,q⟩
  ·exact h2 q
  ·exact h3 ⟨c,(h.blk k h1 h2 h3)▸q⟩).trans (h.blk k h1 h2 h3)⟩
theorem Kp.cell (h:Kp e b W1 Wi V){v:Value}(hc:Wi.cell? ⟨g,o,none⟩=some v)(hg:g≠b)(ht:¬aZ Wi e g):V.cell? ⟨g,o,none⟩=some v:=
 (World.cell?_of_block (a:=⟨g,o,none⟩) (h.blk g (lt_of_cell hc) hg ht)).trans hc
theorem Kp.sl {α:Type}[Rep α]{S:Nat->Prop}{A:Option Addr}{n c:Nat}{xs:List α}(h:Kp e b W1 Wi V)(hs:Sl Wi S A n c xs)(hS: ∀k,S k->k<Wi.heap.size/\k≠b/\¬aZ Wi e k):In V A n c xs:=
 In.of_sl (Sl.keep (λk hk=>h.blk k (hS k hk).1 (hS k hk).2.1 (hS k hk).2.2) hs) λk hk=>Nat.lt_of_lt_of_le (hS k hk).1 h.size
end
theorem Sl.ent {w:World}{S:Nat->Prop}{A:Option Addr}{n c k:Nat}{xs:List Ent}(h:Sl w S A n c xs)(hk:k<n): ∃b off x,A=some ⟨b,off,none⟩/\S b/\Hid (xs.drop k=x :: xs.drop (k+1))/\
  ∃A' n' c',w.cell? ⟨b,off+k*2,none⟩=some (.slice A' n' c')/\w.cell? ⟨b,off+k*2+1,none⟩=some (.int .i64 x.count)/\Sl w S A' n' c' x.row/\dB x.count:=by
 obtain ⟨b,off,e,hb,hi⟩:=h.2.2.2.2 (by omega);have hl:k<xs.length:=by rw[h.1];exact hk
 obtain ⟨cs,⟨A',n',c',rfl,hs,hv⟩,hc⟩:=hi k hl;exact ⟨b,off,xs[k],e,hb,List.drop_eq_getElem_cons hl,A',n',c',hc 0 (by simp),hc 1 (by simp),hs,hv⟩
def tY (P:Program)(K e:TypeId)(B b n:Nat)(f:ByteArray->Value)(F:ByteArray->List ByteArray)(T x:ByteArray)(V:World)(v:Value):Prop:=
 ∃V0,NMap P K e B V0 b n f F/\V0.grownBy V (f T).ownBlock/\OL e B (λ_=>False) [] V v (F T++[x])/\(v.ownBlock=(f T).ownBlock\/ ∃k,v.ownBlock=some k/\V0.heap.size<=k)
theorem tY.below {P:Program}{K e:TypeId}{B b n:Nat}{f:ByteArray->Value}{F:ByteArray->List ByteArray}{T x:ByteArray}{V V':World}{v:Value}(h:tY P K e B b n f F T x V v)(hb:Below V.heap.size V V'):tY P K e B b n f F T x V' v:=by
 obtain ⟨V0,h1,h2,h3,h4⟩:=h;exact ⟨V0,h1,h2.trans (Below.grows hb _),h3.below hb,h4⟩
theorem Kp.ty {e b t g:Nat}{W1 Wi V:World}(h:Kp e b W1 Wi V)(hc:aZ Wi t g)(hg:g≠b)(ht:¬aZ Wi e g):aZ V t g:=by
 obtain ⟨c,q⟩:=hc;exact ⟨c,(h.blk g (aZ.lt ⟨c,q⟩) hg ht).trans q⟩
def Ko {α:Type}[Rep α](e b:Nat)(V:World)(A:Option Addr)(n c:Nat)(xs:List α):Prop:=Sl V (λk=>k<V.heap.size/\k≠b/\¬aZ V e k) A n c xs
section
variable {α:Type}[Rep α]{e b n c:Nat}{W1 Wi V V':World}{A:Option Addr}{xs:List α}
theorem Ko.inn (h:Ko e b V A n c xs):In V A n c xs:=In.of_sl h λk hk=>hk.1
theorem Ko.below (h:Ko e b V A n c xs)(hb:Below V.heap.size V V'):Ko e b V' A n c xs:=
 (Sl.keep (λk hk=>hb.block k hk.1) h).mono λk hk=>⟨Nat.lt_of_lt_of_le hk.1 hb.size,hk.2.1,λ⟨c,q⟩=>hk.2.2 ⟨c,(hb.block k hk.1)▸q⟩⟩
theorem Kp.ko {S:Nat->Prop}(h:Kp e b W1 Wi V)(hs:Sl Wi S A n c xs)(hS: ∀k,S k->k<Wi.heap.size/\k≠b/\¬aZ Wi e k):Ko e b V A n c xs:=
 (Sl.keep (λk hk=>h.blk k (hS k hk).1 (hS k hk).2.1 (hS k hk).2.2) hs).mono λk hk=>⟨Nat.lt_of_lt_of_le (hS k hk).1 h.size,(hS k hk).2.1,λ⟨c,q⟩=>(hS k hk).2.2 ⟨c,(h.blk k (hS k hk).1 (hS k hk).2.1 (hS k hk).2.2)▸q⟩⟩
theorem Kp.ko2 (h:Kp e b W1 Wi V)(hs:Ko e b Wi A n c xs):Ko e b V A n c xs:=h.ko hs λ_ hk=>hk
theorem Kp.trans {V2:World}(h:Kp e b W1 Wi V)(h':Kp e b W1 V V2):Kp e b W1 Wi V2:=
 ⟨h'.bel,Nat.le_trans h.size h'.size,λk h1 h2 h3=>(h'.blk k (Nat.lt_of_lt_of_le h1 h.size) h2 λ⟨c,q⟩=>h3 ⟨c,(h.blk k h1 h2 h3)▸q⟩).trans (h.blk k h1 h2 h3)⟩
end
theorem Gh {V:World}{g e:Nat}{v:Value}(h:V.heap[g]?=some (.cells #[v] e (0,0))):Src V 1 (some ⟨g,0,none⟩) 1 [v]:=
 ⟨rfl,λ_=>⟨g,0,rfl,λj u hu=>by
  rw[Nat.zero_add,cell_of_row V g j _ e (0,0) h];simpa using hu⟩⟩
structure R15 (B b m:Nat) (W1 Wr:World) (f:ByteArray->Value) (F:ByteArray->List ByteArray) (T nm:ByteArray) (gc gy:Nat) (Ay:Option Addr) (ny cy:Nat) (V:World) (v60 v61 v62 v63 v64 v65 v66 v67 v68 v69 v70 v71 v72:Value) (L:Nat->Bool):Prop where
 kp:Kp 9 b W1 Wr V
 f0:L 0=true->v60=.map (some b)
 f1:L 1=true->v61=.pointer (some ⟨gy,0,none⟩)
 f2:L 2=true->v62=.slice Ay ny cy
 f3:L 3=true->v63=.string T
 f4:L 4=true->v64=.map (some b)
 f5:L 5=true->v65=.pointer (some ⟨gy,0,none⟩)
 f6:L 6=true->v66=.slice Ay ny cy
 f7:L 7=true->v67=.string T
 f8:L 8=true->v68=f T
 f9:L 9=true->v69=.pointer (some ⟨gc,0,none⟩)
 f10:L 10=true->v70=.string nm
 f11:L 11=true-> ∃g,v71=.slice (some ⟨g,0,none⟩) 1 1/\(L 12=false->V.heap[g]?=some (.cells #[.string nm] 9 (0,0)))
 s0:L 12=false->NMap Tryz.prog 9 9 B V b m f F
 s1:L 12=true->L 13=false->tY Tryz.prog 9 9 B b m f F T nm V v72
 s2:L 13=true-> ∃f2,NMap Tryz.prog 9 9 B V b (m+1) f2 (λs=>if s=T then F T++[nm] else F s)
 o8:L 8=true->L 7=true
 o12:L 12=true->L 8=true/\L 11=true
 o13:L 13=true->L 12=true/\L 3=true/\L 7=true
def dI:Nat->List Nat
 | 2=>[1]
 | 3=>[2]
 | 6=>[5]
 | 7=>[6]
 | 8=>[4,7]
 | 10=>[9]
 | 11=>[10]
 | 12=>[8,11]
 | 13=>[0,3,12]
 | _=>[]
theorem sj (w:World)(r:Rel)(A1:Option Addr)(n1 c1:Nat)(hc:In w A1 n1 c1 r.columns)(Ak:Option Addr)(nk ck:Nat)(A3:Option Addr)(n3 c3:Nat)(hr:In w A3 n3 c3 r.rows)(Ac:Option Addr)(nc cc:Nat)(l:List Chk)(hl:In w Ac nc cc l)(Ao:Option Addr)(no co:Nat)(others:List Rel)(ho:In w Ao no co others)(Aw:Option Addr)(nw cw:Nat)(ws:List Wvr)(hws:In w Aw nw cw ws)(Az:Option Addr)(nz cz:Nat)(zs:List Zone)(hz:In w Az nz cz zs)(hw:Words w)(hb1:n1<=4096)(hb2:nc<=4096)(hb3: ∀c∈l,c.cols.length<=4096/\c.ocols.length<=4096)(hb4: ∀o∈others,o.columns.length<=4096):
  Calls Tryz.prog 33 #[.agg #[.string r.name,.slice A1 n1 c1,.slice Ak nk ck,.slice A3 n3 c3],.slice Ac nc cc,.slice Ao no co,.slice Aw nw cw,.slice Az nz cz] w
   λe w'=>(∃m,e=.returned (.tuple #[m,.int .i64 (kX r others zs l)])/\(kX r others zs l=0-> ∃b n f,m=.map (some b)/\NMap Tryz.prog 9 9 w.heap.size w' b n f (mF r others ws zs l)))/\Below w.heap.size w w':=by
 have hmm:=@run_makeMap Tryz.prog;have h63:=hl.le;have HLEN:=hide hl.len;have yu:Hid (∀c:Chk,(fI c others).2.columns.length<=4096):=hide (λc=>by
  rw[fI]
  split
  ·simp[qI]
  ·cases hf:others.find? (EM c.other) with
   |none=>simp[tF,qI]
   |some r=>exact hb4 r (List.mem_of_find?_eq_some hf))
 have HB3:=hide hb3;have Gt:=hide λW x A n c A' n' c' bN n'' c'' hx=>wy W x A n c A' n' c' bN n'' c'' Ao no co others hx;have MI:=hide λW x A n c hn A' n' c' hn' bN n'' c'' hq hw h1 h2 on A2 n2 c2 ocols h3 Al nl cl A4 n4 c4 aG h4 h5 e1 e2 e3=>ru W x A n c hn A' n' c' hn' bN n'' c'' hq hw r.name A1 n1 c1 r.columns h1 Ak nk ck A3 n3 c3 r.rows h2 on A2 n2 c2 ocols h3 Al nl cl A4 n4 c4 aG h4 Az nz cz zs h5 e1 e2 hb1 e3;obtain ⟨E,hE⟩: ∃E,kX r others zs l=E:=⟨_,rfl⟩;have HE:=hide hE;rw[hE];clear hE hb3 hb4;simp only[aL]at Gt MI;go_enter Tryz.func33,Tryz.ntmps33;have KX:=hide hws;have HL:=hide hl;clear hl;have HO:=hide ho;clear ho;have KV:=hide hws;clear hws;have HZ:=hide hz;clear hz;have HW:=hide hw;clear hw;have HC:=hide hc;clear hc;have HR:=hide hr;clear hr;go_wp2_with fail;obtain ⟨W1,hW1⟩: ∃W,W=w.alloc (.cells #[.string r.name,.slice A1 n1 c1,.slice Ak nk ck,.slice A3 n3 c3] 29):=⟨_,rfl⟩;obtain ⟨hbW1,fA,g0,g1,g2,g3⟩:=gM hW1 rfl;rw[<-hW1];clear hW1;have K3:=hide hbW1;have jH:=hide hbW1;clear hbW1;have LR:=lt_of_cell g0;have GX:=hide K3.out;have Aj:=hide (NMap.made Tryz.prog 9 9 W1 (B:=W1.heap.size) (Nat.le_refl _));have HB0:Hid (Below W1.heap.size W1 (W1.alloc (.map #[] 0))):=hide ae;have Oy:=hide (show (W1.alloc (.map #[] 0)).heap.size=W1.heap.size+1 from World.size_alloc _ _);rw[<-fA.out];go_wp2;go_loopw [23] (λi wr=> ∃(k n:Nat) (f:ByteArray->Value) (F:ByteArray->List ByteArray),k<=nc/\i=.int .i64 k/\NMap Tryz.prog 9 9 W1.heap.size wr W1.heap.size n f F/\n<=k*4096/\(∀s,F s=mF r others ws zs (l.take k) s)/\(∀s,(F s).length<=k*4096)/\E=ag (λ_=>wK r others zs) k (l.drop k)/\Below W1.heap.size W1 wr/\W1.heap.size+1<=wr.heap.size) (λi _=>nc-(RowKit.intOf i).toNat)
 case atStart=>exact ⟨0,0,_,_,Nat.zero_le _,rfl,Aj.out,Nat.zero_le _,(λs=>by simp[mF]),(λs=>by simp),HE.out.symm,HB0.out,by rw[Oy.out];exact Nat.le_refl _⟩
 case round=>
  obtain ⟨k,n,f,F,hk,rfl,hnm,hn,hF,MX,heq,hb,hsz⟩:=hrel;have Mo:=hide hF;have Mq:=hide MX;have uR:=hide heq;have MF:=hide hsz;clear hF MX heq hsz;have o2:=mO g0 g1 g2 g3;have lK:=hide hb;clear hb;have Jt:=hide hnm;clear hnm;have PI:=hide lK.out;by_cases hlt:k<nc
  ·have NB:=hide (aa jH.out lK.out);obtain ⟨bL,oL,x,rfl,hBb,HX,J6,JZ,Lb,J7,J2,Lc,J8,Md,Ld,⟨f0,f1,f2,f3,f4,f5,f6,f7,f8,f9,f10,f11,f12,f13⟩,i1,i2,i3,hok⟩:=(HL.out.below NB.out).chk hlt;have k0:(0:Int)<=(k:Int):=by omega
   have k1:(k:Int)<(nc:Int):=by omega
   have tV:=hide hok;clear hok;have I1:=hide i1;clear i1;have I2:=hide i2;clear i2;have I3:=hide i3;clear i3;have G8:Hid (E=if wK r others zs x≠0 then wK r others zs x else ag (λ_=>wK r others zs) (k+1) (l.drop (k+1))):=hide (by rw[uR.out,HX.out,ag]);have Da:Hid (wK r others zs x=if (fI x others).1≠0 then (fI x others).1 else (l5 r others zs x).1):=hide rfl;obtain ⟨V,hV⟩: ∃V,wK r others zs x=V:=⟨_,rfl⟩;have hxm:=aW HX.out;obtain ⟨hx1,hx2⟩:=HB3.out x hxm;have hx1:JZ<=4096:=by rw[<-I1.out.len];exact hx1
   have hx2:J2<=4096:=by rw[<-I2.out.len];exact hx2
   rw[hV]at G8 Da;clear hV;obtain ⟨LR,g0,g1,g2,g3⟩:=o2.out _ lK.out;go_wp2_with fail;obtain ⟨W2,hW2⟩: ∃W,W=wr.alloc (.cells #[.string x.name,.string x.table,.int .i64 x.kind,.slice J6 JZ Lb,.string x.other,.slice J7 J2 Lc,.int .i64 x.low,.int .i64 x.high,.slice J8 Md Ld,.int .i64 x.ln,.int .i64 x.ld,.int .i64 x.mn,.int .i64 x.md,.int .i64 x.policy] 48):=⟨_,rfl⟩;obtain ⟨hbW2,y8,p0,p1,p2,p3,p4,p5,p6,p7,p8,p9,Fq,Fs,Fu,Fv⟩:=bV hW2 rfl;have l9:Hid (bg W2 (wr.heap.size) 48 14):=hide (by rw[hW2];exact bg.made _ _ _ _ rfl);rw[<-hW2];clear hW2;have lc:=hide hbW2;clear hbW2;have LC:=lt_of_cell p0;have Gm:=hide (aa lK.out lc.out);obtain ⟨LR,g0,g1,g2,g3⟩:=o2.out _ Gm.out;go_wp2_with fail;have GR:=hide (aa (aa jH.out lK.out) lc.out);refine (Gt.out _ x J6 JZ Lb J7 J2 Lc J8 Md Ld (HO.out.below GR.out)).mono ?_;rintro e w6 ⟨⟨on,A2,n2,c2,Al,nl,cl,A4,n4,c4,rfl,hoc,hor⟩,hb6⟩;have o9:=uO (mO g0 g1 g2 g3) (lM p0 p1 p2 p3 p4 p5 p6 p7 p8 p9 Fq Fs Fu Fv);have dH:=hide hb6;clear hb6;obtain ⟨OS,Ls⟩: ∃q,fI x others=q:=⟨_,rfl⟩;have Kz:=hide Ls;have LU:n2<=4096:=by rw[<-hoc.len];exact yu.out x
   rw[Ls]at hoc hor Da⊢;clear Ls;have sF:=hide hoc;clear hoc;have uT:=hide hor;clear hor;obtain ⟨e1,EI⟩:=OS;by_cases he1:e1=0;rotate_left
   ·have q0:(e1 != 0)=true:=by simpa using he1
    have HR:Hid (E=e1):=hide (by rw[G8.out,Da.out];simp[he1]);have iK:=hide (aa (aa (aa jH.out lK.out) lc.out) dH.out);obtain rfl:=HR.out;obtain ⟨⟨LR,g0,g1,g2,g3⟩,LC,p0,p1,p2,p3,p4,p5,p6,p7,p8,p9,Fq,Fs,Fu,Fv⟩:=o9.out _ dH.out;go_wp2_with fail;all_goals (try (exfalso;go_light;simp_all;done));go_ret2;exact ⟨⟨_,rfl,λh=>absurd h he1⟩,iK.out.alloc iK.out.size _⟩
   subst he1;obtain ⟨⟨LR,g0,g1,g2,g3⟩,LC,p0,p1,p2,p3,p4,p5,p6,p7,p8,p9,Fq,Fs,Fu,Fv⟩:=o9.out _ dH.out;go_wp2_with fail;all_goals (try (exfalso;go_light;simp_all;done));obtain ⟨W4,nY⟩: ∃W,W=w6.alloc (.cells #[.string on,.slice A2 n2 c2,.slice Al nl cl,.slice A4 n4 c4] 29):=⟨_,rfl⟩;obtain ⟨jq,nN,s0,s1,s2,s3⟩:=gM nY rfl;rw[<-nY];clear nY;have gT:=hide jq;clear jq;have LO:=lt_of_cell s0;have Gv:Hid (l5 r others zs x=rf x r.columns EI.columns r.rows EI.rows zs):=hide (by rw[l5,Kz.out]);have Ib:=hide (Ae (r:=r) (others:=others) (zs:=zs) (c:=x));have wV:=hide (aa dH.out gT.out);obtain ⟨⟨LR,g0,g1,g2,g3⟩,LC,p0,p1,p2,p3,p4,p5,p6,p7,p8,p9,Fq,Fs,Fu,Fv⟩:=o9.out _ wV.out;go_wp2_with fail;have lH:=hide (aa (aa (aa (aa jH.out lK.out) lc.out) dH.out) gT.out);have Fx:=hide (aa (aa lc.out dH.out) gT.out);refine (MI.out _ x J6 JZ Lb (I1.out.below Fx.out) J7 J2 Lc (I2.out.below Fx.out) J8 Md Ld (I3.out.below Fx.out) (HW.out.below lH.out) (HC.out.below lH.out) (HR.out.below lH.out) on A2 n2 c2 EI.columns (sF.out.below gT.out) Al nl cl A4 n4 c4 EI.rows (uT.out.below gT.out) (HZ.out.below lH.out) hx1 hx2 LU).mono ?_;rintro e J3 ⟨⟨bv,rfl,hol⟩,ut⟩;have o16:=uO (mO g0 g1 g2 g3) (uO (lM p0 p1 p2 p3 p4 p5 p6 p7 p8 p9 Fq Fs Fu Fv) (mO s0 s1 s2 s3));have Ik:=hide ut;have jb:=hide ut;clear ut;rw[<-Gv.out]at hol⊢;clear Gv;obtain ⟨VO,Lv⟩: ∃q,l5 r others zs x=q:=⟨_,rfl⟩;have Gv:=hide Lv;rw[Lv]at hol Da Ib⊢;clear Lv;obtain ⟨e2,bad⟩:=VO;by_cases he2:e2=0;rotate_left
   ·have q0:(e2 != 0)=true:=by simpa using he2
    have HR:Hid (E=e2):=hide (by rw[G8.out,Da.out];simp[he2]);have iK:=hide (aa (aa (aa (aa (aa jH.out lK.out) lc.out) dH.out) gT.out) jb.out);obtain rfl:=HR.out;obtain ⟨⟨LR,g0,g1,g2,g3⟩,⟨LC,p0,p1,p2,p3,p4,p5,p6,p7,p8,p9,Fq,Fs,Fu,Fv⟩,LO,s0,s1,s2,s3⟩:=o16.out _ jb.out;go_wp2;all_goals (try (exfalso;go_light;simp_all;done));go_ret2;exact ⟨⟨_,rfl,λh=>absurd h he2⟩,iK.out⟩
   subst he2;dsimp only at hol;have hbl:bad.length<=4096:=Ib.out rfl;have NL:Hid (E=ag (λ_=>wK r others zs) (k+1) (l.drop (k+1))):=hide (by rw[G8.out,Da.out];simp);obtain ⟨Ab,cb,hbv,hsl⟩:=hol.sl;obtain rfl:=hbv;obtain ⟨mb,hmb⟩: ∃m,bad.length=m:=⟨_,rfl⟩;rw[hmb]at hsl hbl⊢;have EX:=hide hmb;have hbs:W1.heap.size+1<=W4.heap.size:=Nat.le_trans MF.out (by have:=nN.out;have:=y8.out;have:=Ik.out.size;omega);have ME:Hid (∀(V:World) k,BS W4.heap.size (λ_=>False) [50,36] V k->W4.heap.size<=V.heap.size->k<V.heap.size/\k≠W1.heap.size/\¬aZ V 9 k):=hide (λV k h hV=>⟨h.lt hV,by
     rcases h with ⟨h,_⟩|⟨h,_⟩
     ·cases h
     ·omega,λq=>by
     rcases h with ⟨h,_⟩|⟨_,t,ht,h⟩
     ·exact h
     ·simp only[List.mem_cons,List.not_mem_nil,or_false]at ht;rcases ht with rfl|rfl
      ·exact aZ.ne h q (by decide) rfl
      ·exact aZ.ne h q (by decide) rfl⟩)
   have rC:=hide hol.base;have zw:=Nat.le_trans hbs hol.base;have Jv:=hide hsl;clear hmb hsl hol G8 Da Ib hbs;have Fy:=hide (aa (aa dH.out gT.out) jb.out);have htc:=(l9.out.below Fy.out).ty;have Kb:=hide (aa (aa (aa lc.out dH.out) gT.out) jb.out);have hnw:=(Jt.out.below Kb.out);have hbw:=(aa (aa (aa (aa (aa jH.out lK.out) lc.out) dH.out) gT.out) jb.out);have hb1:=(aa (aa (aa (aa lK.out lc.out) dH.out) gT.out) jb.out);have Kc:=hide (aa (aa (aa (aa (aa jH.out lK.out) lc.out) dH.out) gT.out) jb.out);have hws:=(KV.out.below Kc.out);obtain ⟨Wi,M0⟩: ∃W,W=J3:=⟨_,rfl⟩;obtain ⟨⟨LR,g0,g1,g2,g3⟩,⟨LC,p0,p1,p2,p3,p4,p5,p6,p7,p8,p9,Fq,Fs,Fu,Fv⟩,LO,s0,s1,s2,s3⟩:=o16.out _ jb.out;rw[<-M0]at htc hnw hbw hb1 hws zw rC Jv p0⊢;clear M0;have MG:=hide htc;have MO:=hide zw;clear zw;have FK:=hide hnw;have NG:=hide hbw;have NE:=hide hb1;have OI:=hide hws;have P0:=hide p0;have Ha:Hid (wr.heap.size≠W1.heap.size/\¬aZ Wi 9 wr.heap.size):=hide ⟨by have:=MF.out;omega,λh=>aZ.ne MG.out h (by decide) rfl⟩;have Kn:=hide (Kp.refl (e:=9) (b:=W1.heap.size) hb1);obtain ⟨wo,rfl⟩: ∃W,W=wr:=⟨_,rfl⟩;go_upto_region 11 with (fail);go_cut [47,48,49] from 24 to 46 (λPt Pv s49 wx=>Pt=.slice Ab mb cb/\Pv=.int .i64 mb/\s49=.int .i64 0/\wx=Wi)
   case first=>
    go_wp2;go_meet
    case rel=>exact ⟨rfl,rfl,rfl,rfl⟩
   obtain ⟨rfl,rfl,rfl,hwx⟩:=hcut;obtain rfl:=hwx.symm;go_wp2;go_loopw [49] (λj wi=> ∃(q m:Nat) (f':ByteArray->Value) (F':ByteArray->List ByteArray),q<=mb/\j=.int .i64 q/\NMap Tryz.prog 9 9 W1.heap.size wi W1.heap.size m f' F'/\m<=n+q/\(∀s,F' s=F s++fZ ws x (bad.take q) s)/\Kp 9 W1.heap.size W1 Wi wi) (λj _=>mb-(RowKit.intOf j).toNat)
   case atStart=>exact ⟨0,n,f,F,Nat.zero_le _,rfl,FK.out,by omega,(λs=>by simp[fZ]),Kn.out⟩
   case round=>
    obtain ⟨q,m,f',F',hq,rfl,hnm',hm,hF',hkp⟩:=hrel;have pg:=hide hkp;have Gq:=hide hF';have Gw:=hide (aa GX.out hkp.bel);clear hkp hF';obtain ⟨wi,rfl⟩: ∃W,W=wr:=⟨_,rfl⟩;have Kw:=hide hnm';clear hnm';have KW:=hide (KX.out.below Gw.out);have hbi:=pg.out.bel;by_cases hlt2:q<mb
    ·obtain ⟨b9,o9,y,rfl,hSb,HY,Ay,ny,cy,u0,u1,u2,u3⟩:=Jv.out.ent hlt2;have j0:(0:Int)<=(q:Int):=by omega
     have j1:(q:Int)<(mb:Int):=by omega
     have vN:=ME.out _ _ hSb rC.out;have r0:=pg.out.cell u0 vN.2.1 vN.2.2;have r1:=pg.out.cell u1 vN.2.1 vN.2.2;have hko:=pg.out.ko u2 (λk h=>ME.out _ k h rC.out);have Nk:=pg.out.ty MG.out Ha.out.1 Ha.out.2;have hc0:=pg.out.cell P0.out Ha.out.1 Ha.out.2;clear u0 u1 u2 hSb vN;have KZ:=lt_of_cell hc0;have Mt:=hide hko;clear hko;have OC:=hide Nk;clear Nk;have Ns:=KW.out;have OG:=hide Ns;clear Ns;go_wp2_with fail;obtain ⟨W9,JW⟩: ∃W,W=wi.alloc (.cells #[.slice Ay ny cy,.int .i64 y.count] 50):=⟨_,rfl⟩;obtain ⟨I4,OY,y0,y1⟩:=pY JW rfl;have K5:Hid (bg W9 (wi.heap.size) 50 2):=hide (by rw[JW];exact bg.made _ _ _ _ rfl);rw[<-JW];clear JW;have wU:=jP hc0;have gI:=hide I4;clear I4;have LY:=lt_of_cell y0;obtain ⟨KZ,hc0⟩:=wU.out _ gI.out;go_wp2_with fail;refine (j3 _ Aw nw cw ws (OG.out.below gI.out) x.name Ay ny cy y.row (Mt.out.below gI.out).inn).mono ?_;rintro e Nz ⟨rfl,BR⟩;have GH:=uO (jP hc0) (Bh y0 y1);have gU:=hide BR;clear BR;have Du:=hide (aa gI.out gU.out);cases hv:dA ws x.name y.row;rotate_left
     ·have Js:Hid (∀s,F' s=F s++fZ ws x (bad.take (q+1)) s):=hide (λs=>by rw[Gq.out s,bf HY.out,oM,if_neg (by simp[hv])]);have yR:=hide (aa gI.out gU.out);have dE:=hide (Kw.out.below yR.out);obtain ⟨⟨KZ,hc0⟩,LY,y0,y1⟩:=GH.out _ gU.out;go_wp2;all_goals (try (exfalso;go_light;simp_all;done));go_roundw
      case rel=>exact ⟨q+1,m,f',F',by omega,by go_num,dE.out,by omega,Js.out,pg.out.below Du.out⟩
      case measure=>simp[RowKit.intOf];omega
     ·have wT:=hide (iI y.row);have OQ:Hid (Str x.name):=hide tV.out.1;have Gu:=hide λW h=>qX W Ay ny cy y.row h;have Js:Hid (∀s,(if s=aI y.row then F' (aI y.row)++[x.name] else F' s)=F s++fZ ws x (bad.take (q+1)) s):=hide (λs=>by
       rw[bf HY.out,oM];by_cases hs:s=aI y.row
       ·rw[if_pos hs,if_pos ⟨hs.symm,hv⟩,Gq.out,hs,List.append_assoc]
       ·rw[if_neg hs,if_neg λh=>hs h.1.symm,Gq.out])
      obtain ⟨T,hT⟩: ∃T,aI y.row=T:=⟨_,rfl⟩;rw[hT]at wT Gu Js;clear hT;obtain ⟨⟨KZ,hc0⟩,LY,y0,y1⟩:=GH.out _ gU.out;go_upto_region 15 with (fail);have FB:=hide (aa gI.out gU.out);have hnr:=(Kw.out.below FB.out);have hkr:=(Mt.out.below FB.out);have htr:=(OC.out.below FB.out);have L8:=(K5.out.below gU.out).ty;have hpr:=pg.out.below Du.out;obtain ⟨Wr,IG⟩: ∃W,W=Nz:=⟨_,rfl⟩;rw[<-IG]at hnr hkr htr L8 hpr y0 hc0⊢;clear IG;have Oo:=hide hnr;have Mv:=hide hkr;have Mx:=hide hpr;have Y0:=hide y0;have C0:=hide hc0;have OT:Hid (W1.heap.size+1<=wi.heap.size):=hide (Nat.le_trans MO.out pg.out.size);have Jz:Hid (wi.heap.size≠W1.heap.size/\¬aZ Wr 9 wi.heap.size):=hide ⟨by have:=OT.out;omega,λh=>aZ.ne L8 h (by decide) rfl⟩;have Ml:Hid (wo.heap.size≠W1.heap.size/\¬aZ Wr 9 wo.heap.size):=hide ⟨Ha.out.1,λh=>aZ.ne htr h (by decide) rfl⟩;have Gs:Hid (m<maxLen/\(F' T).length+1<=maxLen/\((F' T).length+1)*16<=140737488355328):=hide (by
       have h1:=Mq.out T;have h2:=qH ws x (bad.take q) T;have h3:=congrArg List.length (Gq.out T);rw[List.length_append]at h3;have h4:(bad.take q).length<=q:=by rw[List.length_take];omega
       simp only[maxLen];omega)
      clear hnr hkr htr L8 hpr y0 hc0 y1;refine kY (by kernel_rfl) dI (by kernel_rfl) (λL a V=> ∃v60 v61 v62 v63 v64 v65 v66 v67 v68 v69 v70 v71 v72,a=⟨#[.agg #[.string r.name,.slice A1 n1 c1,.slice Ak nk ck,.slice A3 n3 c3],.slice (some ⟨bL,oL,none⟩) nc cc,.slice Ao no co,.slice Aw nw cw,.slice Az nz cz,.pointer (some ⟨w.heap.size,0,none⟩),undef,undef,undef,undef,u10,u11,.map (some W1.heap.size),undef,.pointer (some ⟨wo.heap.size,0,none⟩),.pointer (some ⟨w6.heap.size,0,none⟩),.int .i64 0,.slice (some ⟨b9,o9,none⟩) mb cb,undef,.pointer (some ⟨wi.heap.size,0,none⟩),.map (some W1.heap.size),.slice (some ⟨bL,oL,none⟩) nc cc,.int .i64 ↑nc,.int .i64 ↑k,u24,u25,u26,u27,u28,u29,u30,u31,u32,u33,u34,u35,u36,u37,u38,u39,u40,u41,u42,u43,u44,u45,u46,.slice (some ⟨b9,o9,none⟩) mb cb,.int .i64 ↑mb,.int .i64 ↑q,.bool true,.pointer (some ⟨b9,o9+q*2,none⟩),.agg #[.slice Ay ny cy,.int .i64 y.count],.slice Aw nw cw,.pointer (some ⟨wo.heap.size,0,none⟩),.string x.name,.pointer (some ⟨wi.heap.size,0,none⟩),.slice Ay ny cy,.bool false,.bool true,v60,v61,v62,v63,v64,v65,v66,v67,v68,v69,v70,v71,v72,u73,u74,undef],[]⟩/\R15 W1.heap.size W1.heap.size m W1 Wr f' F' T x.name wo.heap.size wi.heap.size Ay ny cy V v60 v61 v62 v63 v64 v65 v66 v67 v68 v69 v70 v71 v72 L) ?_ ?_ ?_
      ·exact ⟨_,_,_,_,_,_,_,_,_,_,_,_,_,rfl,{kp:=(Kp.refl Mx.out.bel).below (Below.refl _ _).drew,f0:=(λq=>by cases q),f1:=(λq=>by cases q),f2:=(λq=>by cases q),f3:=(λq=>by cases q),f4:=(λq=>by cases q),f5:=(λq=>by cases q),f6:=(λq=>by cases q),f7:=(λq=>by cases q),f8:=(λq=>by cases q),f9:=(λq=>by cases q),f10:=(λq=>by cases q),f11:=(λq=>by cases q),s0:=(λ_=>Oo.out.below (Below.refl _ _).drew),s1:=(λq=>by cases q),s2:=(λq=>by cases q),o8:=(λq=>by cases q),o12:=(λq=>by cases q),o13:=(λq=>by cases q)}⟩
      ·intro L i a V hi hL hd hI;obtain ⟨v60,v61,v62,v63,v64,v65,v66,v67,v68,v69,v70,v71,v72,rfl,hI⟩:=hI;have hi:i<14:=hi;have HI:=hide hI;have HD:=hide hd;have rG:=hide hL;clear hI hd hL;obtain rfl|rfl|rfl|rfl|rfl|rfl|rfl|rfl|rfl|rfl|rfl|rfl|rfl|rfl:i=0\/i=1\/i=2\/i=3\/i=4\/i=5\/i=6\/i=7\/i=8\/i=9\/i=10\/i=11\/i=12\/i=13:=by omega
       ·refine wpOp_step rfl (λK1 hK=>?_);have HK:=hide hK;clear hK;go_simp;exact HK.out _ _ ⟨_,_,_,_,_,_,_,_,_,_,_,_,_,rfl,{kp:=HI.out.kp,f0:=(λ_=>rfl),f1:=HI.out.f1,f2:=HI.out.f2,f3:=HI.out.f3,f4:=HI.out.f4,f5:=HI.out.f5,f6:=HI.out.f6,f7:=HI.out.f7,f8:=HI.out.f8,f9:=HI.out.f9,f10:=HI.out.f10,f11:=HI.out.f11,s0:=HI.out.s0,s1:=HI.out.s1,s2:=HI.out.s2,o8:=HI.out.o8,o12:=HI.out.o12,o13:=HI.out.o13}⟩
       ·refine wpOp_step rfl (λK1 hK=>?_);have HK:=hide hK;clear hK;go_simp;exact HK.out _ _ ⟨_,_,_,_,_,_,_,_,_,_,_,_,_,rfl,{kp:=HI.out.kp,f0:=HI.out.f0,f1:=(λ_=>rfl),f2:=HI.out.f2,f3:=HI.out.f3,f4:=HI.out.f4,f5:=HI.out.f5,f6:=HI.out.f6,f7:=HI.out.f7,f8:=HI.out.f8,f9:=HI.out.f9,f10:=HI.out.f10,f11:=HI.out.f11,s0:=HI.out.s0,s1:=HI.out.s1,s2:=HI.out.s2,o8:=HI.out.o8,o12:=HI.out.o12,o13:=HI.out.o13}⟩
       ·obtain rfl:=HI.out.f1 (HD.out 1 (by simp[dI]));have c0:=HI.out.kp.cell Y0.out Jz.out.1 Jz.out.2;refine wpOp_step rfl (λK1 hK=>?_);have HK:=hide hK;clear hK;go_simp;exact HK.out _ _ ⟨_,_,_,_,_,_,_,_,_,_,_,_,_,rfl,{kp:=HI.out.kp,f0:=HI.out.f0,f1:=HI.out.f1,f2:=(λ_=>rfl),f3:=HI.out.f3,f4:=HI.out.f4,f5:=HI.out.f5,f6:=HI.out.f6,f7:=HI.out.f7,f8:=HI.out.f8,f9:=HI.out.f9,f10:=HI.out.f10,f11:=HI.out.f11,s0:=HI.out.s0,s1:=HI.out.s1,s2:=HI.out.s2,o8:=HI.out.o8,o12:=HI.out.o12,o13:=HI.out.o13}⟩
       ·obtain rfl:=HI.out.f2 (HD.out 2 (by simp[dI]));refine wpOp_step rfl (λK1 hK=>?_);have HK:=hide hK;clear hK;go_simp;go_at_call 38;refine (Gu.out _ (HI.out.kp.ko2 Mv.out).inn).mono ?_;rintro e w1 ⟨rfl,hb⟩;have HB:=hide hb;clear hb;go_wp2_with fail;exact HK.out _ _ ⟨_,_,_,_,_,_,_,_,_,_,_,_,_,rfl,{kp:=HI.out.kp.below HB.out,f0:=HI.out.f0,f1:=HI.out.f1,f2:=HI.out.f2,f3:=(λ_=>rfl),f4:=HI.out.f4,f5:=HI.out.f5,f6:=HI.out.f6,f7:=HI.out.f7,f8:=HI.out.f8,f9:=HI.out.f9,f10:=HI.out.f10,f11:=(λh=>by obtain ⟨g,e1,q1⟩:=HI.out.f11 h;exact ⟨g,e1,λz=>(HB.out.block g (Array.getElem?_eq_some_iff.1 (q1 z)).1).trans (q1 z)⟩),s0:=(λh=>(HI.out.s0 h).below HB.out),s1:=(λh h1=>(HI.out.s1 h h1).below HB.out),s2:=(λh=>absurd (HI.out.o13 h).2.1 (by rw[rG.out];decide)),o8:=HI.out.o8,o12:=HI.out.o12,o13:=(λh=>by obtain ⟨a1,a2,a3⟩:=HI.out.o13 h;exact ⟨a1,rfl,a3⟩)}⟩
       ·refine wpOp_step rfl (λK1 hK=>?_);have HK:=hide hK;clear hK;go_simp;exact HK.out _ _ ⟨_,_,_,_,_,_,_,_,_,_,_,_,_,rfl,{kp:=HI.out.kp,f0:=HI.out.f0,f1:=HI.out.f1,f2:=HI.out.f2,f3:=HI.out.f3,f4:=(λ_=>rfl),f5:=HI.out.f5,f6:=HI.out.f6,f7:=HI.out.f7,f8:=HI.out.f8,f9:=HI.out.f9,f10:=HI.out.f10,f11:=HI.out.f11,s0:=HI.out.s0,s1:=HI.out.s1,s2:=HI.out.s2,o8:=HI.out.o8,o12:=HI.out.o12,o13:=HI.out.o13}⟩
       ·refine wpOp_step rfl (λK1 hK=>?_);have HK:=hide hK;clear hK;go_simp;exact HK.out _ _ ⟨_,_,_,_,_,_,_,_,_,_,_,_,_,rfl,{kp:=HI.out.kp,f0:=HI.out.f0,f1:=HI.out.f1,f2:=HI.out.f2,f3:=HI.out.f3,f4:=HI.out.f4,f5:=(λ_=>rfl),f6:=HI.out.f6,f7:=HI.out.f7,f8:=HI.out.f8,f9:=HI.out.f9,f10:=HI.out.f10,f11:=HI.out.f11,s0:=HI.out.s0,s1:=HI.out.s1,s2:=HI.out.s2,o8:=HI.out.o8,o12:=HI.out.o12,o13:=HI.out.o13}⟩
       ·obtain rfl:=HI.out.f5 (HD.out 5 (by simp[dI]));have c0:=HI.out.kp.cell Y0.out Jz.out.1 Jz.out.2;refine wpOp_step rfl (λK1 hK=>?_);have HK:=hide hK;clear hK;go_simp;exact HK.out _ _ ⟨_,_,_,_,_,_,_,_,_,_,_,_,_,rfl,{kp:=HI.out.kp,f0:=HI.out.f0,f1:=HI.out.f1,f2:=HI.out.f2,f3:=HI.out.f3,f4:=HI.out.f4,f5:=HI.out.f5,f6:=(λ_=>rfl),f7:=HI.out.f7,f8:=HI.out.f8,f9:=HI.out.f9,f10:=HI.out.f10,f11:=HI.out.f11,s0:=HI.out.s0,s1:=HI.out.s1,s2:=HI.out.s2,o8:=HI.out.o8,o12:=HI.out.o12,o13:=HI.out.o13}⟩
       ·obtain rfl:=HI.out.f6 (HD.out 6 (by simp[dI]));refine wpOp_step rfl (λK1 hK=>?_);have HK:=hide hK;clear hK;go_simp;go_at_call 38;refine (Gu.out _ (HI.out.kp.ko2 Mv.out).inn).mono ?_;rintro e w1 ⟨rfl,hb⟩;have HB:=hide hb;clear hb;go_wp2_with fail;exact HK.out _ _ ⟨_,_,_,_,_,_,_,_,_,_,_,_,_,rfl,{kp:=HI.out.kp.below HB.out,f0:=HI.out.f0,f1:=HI.out.f1,f2:=HI.out.f2,f3:=HI.out.f3,f4:=HI.out.f4,f5:=HI.out.f5,f6:=HI.out.f6,f7:=(λ_=>rfl),f8:=HI.out.f8,f9:=HI.out.f9,f10:=HI.out.f10,f11:=(λh=>by obtain ⟨g,e1,q1⟩:=HI.out.f11 h;exact ⟨g,e1,λz=>(HB.out.block g (Array.getElem?_eq_some_iff.1 (q1 z)).1).trans (q1 z)⟩),s0:=(λh=>(HI.out.s0 h).below HB.out),s1:=(λh h1=>(HI.out.s1 h h1).below HB.out),s2:=(λh=>absurd (HI.out.o13 h).2.2 (by rw[rG.out];decide)),o8:=(λ_=>rfl),o12:=HI.out.o12,o13:=(λh=>by obtain ⟨a1,a2,a3⟩:=HI.out.o13 h;exact ⟨a1,a2,rfl⟩)}⟩
       ·obtain rfl:=HI.out.f4 (HD.out 4 (by simp[dI]));obtain rfl:=HI.out.f7 (HD.out 7 (by simp[dI]));have Di:L 12=false:=Bool.eq_false_iff.2 λh=>absurd (HI.out.o12 h).1 (by rw[rG.out];decide);have lk:=(HI.out.s0 Di).look Tryz.underlying91 Tryz.underlying9 (λV=>Tryz.zeroValue43 V) wT.out (V:=V) rfl;refine wpOp_step rfl (λK1 hK=>?_);have HK:=hide hK;clear hK;go_simp;exact HK.out _ _ ⟨_,_,_,_,_,_,_,_,_,_,_,_,_,rfl,{kp:=HI.out.kp,f0:=HI.out.f0,f1:=HI.out.f1,f2:=HI.out.f2,f3:=HI.out.f3,f4:=HI.out.f4,f5:=HI.out.f5,f6:=HI.out.f6,f7:=HI.out.f7,f8:=(λ_=>rfl),f9:=HI.out.f9,f10:=HI.out.f10,f11:=HI.out.f11,s0:=HI.out.s0,s1:=HI.out.s1,s2:=HI.out.s2,o8:=(λ_=>HD.out 7 (by simp[dI])),o12:=(λh=>⟨rfl,(HI.out.o12 h).2⟩),o13:=HI.out.o13}⟩
       ·refine wpOp_step rfl (λK1 hK=>?_);have HK:=hide hK;clear hK;go_simp;exact HK.out _ _ ⟨_,_,_,_,_,_,_,_,_,_,_,_,_,rfl,{kp:=HI.out.kp,f0:=HI.out.f0,f1:=HI.out.f1,f2:=HI.out.f2,f3:=HI.out.f3,f4:=HI.out.f4,f5:=HI.out.f5,f6:=HI.out.f6,f7:=HI.out.f7,f8:=HI.out.f8,f9:=(λ_=>rfl),f10:=HI.out.f10,f11:=HI.out.f11,s0:=HI.out.s0,s1:=HI.out.s1,s2:=HI.out.s2,o8:=HI.out.o8,o12:=HI.out.o12,o13:=HI.out.o13}⟩
       ·obtain rfl:=HI.out.f9 (HD.out 9 (by simp[dI]));have c0:=HI.out.kp.cell C0.out Ml.out.1 Ml.out.2;refine wpOp_step rfl (λK1 hK=>?_);have HK:=hide hK;clear hK;go_simp;exact HK.out _ _ ⟨_,_,_,_,_,_,_,_,_,_,_,_,_,rfl,{kp:=HI.out.kp,f0:=HI.out.f0,f1:=HI.out.f1,f2:=HI.out.f2,f3:=HI.out.f3,f4:=HI.out.f4,f5:=HI.out.f5,f6:=HI.out.f6,f7:=HI.out.f7,f8:=HI.out.f8,f9:=HI.out.f9,f10:=(λ_=>rfl),f11:=HI.out.f11,s0:=HI.out.s0,s1:=HI.out.s1,s2:=HI.out.s2,o8:=HI.out.o8,o12:=HI.out.o12,o13:=HI.out.o13}⟩
       ·obtain rfl:=HI.out.f10 (HD.out 10 (by simp[dI]));have Di:L 12=false:=Bool.eq_false_iff.2 λh=>absurd (HI.out.o12 h).2 (by rw[rG.out];decide);refine wpOp_step rfl (λK1 hK=>?_);have HK:=hide hK;clear hK;go_simp;exact HK.out _ _ ⟨_,_,_,_,_,_,_,_,_,_,_,_,_,rfl,{kp:=HI.out.kp.below ae,f0:=HI.out.f0,f1:=HI.out.f1,f2:=HI.out.f2,f3:=HI.out.f3,f4:=HI.out.f4,f5:=HI.out.f5,f6:=HI.out.f6,f7:=HI.out.f7,f8:=HI.out.f8,f9:=HI.out.f9,f10:=HI.out.f10,f11:=(λ_=>⟨_,rfl,λ_=>heap_alloc_new _ _⟩),s0:=(λh=>(HI.out.s0 h).below ae),s1:=(λh=>absurd h (by rw[Di];decide)),s2:=(λh=>absurd (HI.out.o13 h).1 (by rw[Di];decide)),o8:=HI.out.o8,o12:=(λh=>⟨(HI.out.o12 h).1,rfl⟩),o13:=HI.out.o13}⟩
       ·obtain rfl:=HI.out.f8 (HD.out 8 (by simp[dI]));obtain ⟨g,rfl,hg⟩:=HI.out.f11 (HD.out 11 (by simp[dI]));have HG:=hide (hg rG.out);have yU:=hide (HI.out.s0 rG.out);clear hg;refine wpOp_step rfl (λK1 hK=>?_);have HK:=hide hK;clear hK;refine kV V rfl _ _ _ rfl zi (by simp) (yU.out.own T) (by simp[Act.eval,Act.put]) (some ⟨g,0,none⟩) 1 1 [.string x.name] [x.name] (by simp[Act.eval,Act.put]) (by intro h;cases h) (Gh HG.out) (Cells.one ⟨rfl,OQ.out⟩) rfl Gs.out.2.1 Gs.out.2.2 ?_;intro v9 w9 lW eH mi gX;have uS:=hide lW;have FI:=hide mi;have HAT:=hide gX;clear lW eH mi gX;exact HK.out _ _ ⟨_,_,_,_,_,_,_,_,_,_,_,_,_,rfl,{kp:=HI.out.kp.own FI.out (λk h=>⟨((yU.out.own T).ty h).1,.inr ((yU.out.own T).ty h).2⟩),f0:=HI.out.f0,f1:=HI.out.f1,f2:=HI.out.f2,f3:=HI.out.f3,f4:=HI.out.f4,f5:=HI.out.f5,f6:=HI.out.f6,f7:=HI.out.f7,f8:=HI.out.f8,f9:=HI.out.f9,f10:=HI.out.f10,f11:=(λ_=>⟨g,rfl,λh=>absurd h (by simp)⟩),s0:=(λh=>absurd h (by simp)),s1:=(λ_ _=>⟨V,yU.out,FI.out,uS.out,HAT.out.imp id λh=>⟨_,h,Nat.le_refl _⟩⟩),s2:=(λh=>absurd (HI.out.o13 h).1 (by rw[rG.out];decide)),o8:=HI.out.o8,o12:=(λ_=>⟨HD.out 8 (by simp[dI]),HD.out 11 (by simp[dI])⟩),o13:=(λh=>absurd (HI.out.o13 h).1 (by rw[rG.out];decide))}⟩
       ·obtain rfl:=HI.out.f0 (HD.out 0 (by simp[dI]));obtain rfl:=HI.out.f3 (HD.out 3 (by simp[dI]));have Di:=HD.out 12 (by simp[dI]);obtain ⟨V0,hn0,hg0,ho0,II⟩:=HI.out.s1 Di rG.out;obtain ⟨w7,hrun,M9,I7⟩:=hn0.push Tryz.underlying91 Tryz.underlying9 wT.out Gs.out.1 hg0 ho0 II;have Om:=hide M9;have NY:=hide I7;clear hn0 hg0 ho0 II M9 I7;refine wpOp_step rfl (λK1 hK=>?_);have HK:=hide hK;clear hK;go_simp;exact HK.out _ _ ⟨_,_,_,_,_,_,_,_,_,_,_,_,_,rfl,{kp:=HI.out.kp.own NY.out (λk h=>by injection h with h;subst h;exact ⟨Nat.le_refl _,.inl rfl⟩),f0:=HI.out.f0,f1:=HI.out.f1,f2:=HI.out.f2,f3:=HI.out.f3,f4:=HI.out.f4,f5:=HI.out.f5,f6:=HI.out.f6,f7:=HI.out.f7,f8:=HI.out.f8,f9:=HI.out.f9,f10:=HI.out.f10,f11:=(λh=>by obtain ⟨g,e1,q1⟩:=HI.out.f11 h;exact ⟨g,e1,λz=>absurd z (by rw[Di];decide)⟩),s0:=(λh=>absurd h (by rw[Di];decide)),s1:=(λ_ h=>absurd h (by simp)),s2:=(λ_=>⟨_,Om.out⟩),o8:=HI.out.o8,o12:=HI.out.o12,o13:=(λ_=>⟨Di,HD.out 3 (by simp[dI]),HI.out.o8 (HI.out.o12 Di).1⟩)}⟩
      ·intro L a V hL hI;obtain ⟨v60,v61,v62,v63,v64,v65,v66,v67,v68,v69,v70,v71,v72,rfl,hI⟩:=hI;obtain ⟨f2,h2⟩:=hI.s2 (hL 13 (by show 13<14;omega));have fM:=hide h2;have wR:=hide (Mx.out.trans hI.kp);clear h2 hI hL;go_wp2;go_roundw
       case rel=>exact ⟨q+1,m+1,f2,_,by omega,by go_num,fM.out,by omega,Js.out,wR.out⟩
       case measure=>simp[RowKit.intOf];omega
    ·have NW:Hid (∀s,F' s=mF r others ws zs (l.take (k+1)) s):=hide (λs=>by
      rw[Gq.out s,List.take_of_length_le (by rw[EX.out];omega),Mo.out s,bf HX.out,Af,Gv.out])
     have NU:Hid (∀s,(F' s).length<=(k+1)*4096):=hide (λs=>by
      rw[Gq.out s,List.length_append,List.take_of_length_le (by rw[EX.out];omega)];have h1:=Mq.out s;have h2:=qH ws x bad s;have h3:=EX.out;omega)
     have dE:=hide Kw.out;have hzz:W1.heap.size+1<=wi.heap.size:=Nat.le_trans MO.out pg.out.size;go_wp2;go_roundw
     case rel=>exact ⟨k+1,m,f',F',by omega,by go_num,dE.out,by omega,NW.out,NU.out,NL.out,hbi,hzz⟩
     case measure=>simp[RowKit.intOf];omega
  ·obtain rfl:E=0:=by rw[uR.out,List.drop_eq_nil_of_le (by rw[HLEN.out];omega)];rfl
   have Oq:Hid (∀s,F s=mF r others ws zs l s):=hide (λs=>by rw[Mo.out s,List.take_of_length_le (by rw[HLEN.out];omega)]);have dE:=hide Jt.out;have iK:=hide (aa jH.out lK.out);obtain ⟨LR,g0,g1,g2,g3⟩:=o2.out _ lK.out;go_wp2;go_ret2;exact ⟨⟨_,rfl,_,rfl,n,f,(dE.out.congr Oq.out).rebase GX.out.size⟩,iK.out⟩
theorem zh:Elem Tryz.prog 51 57 4 72:=jR (.agg #[.string ⟨#[]⟩,.slice none 0 0,.int .i64 0,.slice none 0 0]) Tryz.underlying51 (by kernel_rfl) rfl (by decide)
theorem oQ {α:Type}[Rep α]{w w':World}{B n c:Nat}{O:Nat->Prop}{T:List TypeId}{A:Option Addr}{xs:List α}(hs:Sl w (BS B O T w) A n c xs)(hB:B<=w.heap.size)(hb:Below w.heap.size w w'):Sl w' (BS B O T w') A n c xs:=
 (Sl.keep (λk hk=>hb.block k (hk.lt hB)) hs).mono λk hk=>hk.below hB hb
theorem OL.besideT {α β:Type}[Rep α][Rep β]{e e':TypeId}{B:Nat}{O O':Nat->Prop}{T T':List TypeId}{w w1:World}{a b:Value}{xs:List α}{ys:List β}(hb:OL e' B O T w b ys)(ha:OL e B O' T' w a xs)(hne:e≠e')(hT:e∉T)(hg:w.grownBy w1 a.ownBlock):OL e' B O T w1 b ys:=
 hb.grown hg λk hk=>⟨λq=>aZ.ne (ha.ty hk).2 (hb.ty q).2 hne rfl,λq=>by
  have h1:=ha.ty hk;rcases q with ⟨_,q⟩|⟨_,t,ht,q⟩
  ·omega
  ·exact aZ.ne h1.2 q (λe1=>hT (e1▸ht)) rfl⟩
theorem zq {α β:Type}(p:α->Bool)(g:α->β)(l:List α)(x:α):((l++[x]).filter p).map g=if p x=true then (l.filter p).map g++[g x] else (l.filter p).map g:=by
 rw[List.filter_append,List.filter_cons];cases p x <;> simp
theorem Bq (w:World)(r:Rel)(A1:Option Addr)(n1 c1:Nat)(hc:In w A1 n1 c1 r.columns)(Ak:Option Addr)(nk ck:Nat)(A3:Option Addr)(n3 c3:Nat)(hr:In w A3 n3 c3 r.rows)(Ac:Option Addr)(nc cc:Nat)(l:List Chk)(hl:In w Ac nc cc l)(Ao:Option Addr)(no co:Nat)(others:List Rel)(ho:In w Ao no co others)(Aw:Option Addr)(nw cw:Nat)(ws:List Wvr)(hws:In w Aw nw cw ws)(Az:Option Addr)(nz cz:Nat)(zs:List Zone)(hz:In w Az nz cz zs)(hw:Words w)(hb1:n1<=4096)(hb2:nc<=4096)(hb3: ∀c∈l,c.cols.length<=4096/\c.ocols.length<=4096)(hb4: ∀o∈others,o.columns.length<=4096)(hrn:Str r.name):
  Calls Tryz.prog 14 #[.agg #[.string r.name,.slice A1 n1 c1,.slice Ak nk ck,.slice A3 n3 c3],.slice Ac nc cc,.slice Ao no co,.slice Aw nw cw,.slice Az nz cz] w
   λe w'=>(∃A7 m7 c7 A8 m8 c8,e=.returned (.tuple #[.slice A7 m7 c7,.slice A8 m8 c8,.int .i64 (xA r l others ws zs).1])/\In w' A7 m7 c7 (xA r l others ws zs).2.1/\In w' A8 m8 c8 (xA r l others ws zs).2.2)/\Below w.heap.size w w':=by
 have Gv:=hide λW Ac nc cc L hL e1 e2 h1 h2 h3 h4 h5 h6=>sj W r A1 n1 c1 h1 Ak nk ck A3 n3 c3 h2 Ac nc cc L hL Ao no co others h3 Aw nw cw ws h4 Az nz cz zs h5 h6 hb1 e1 e2 hb4;have sF:Hid (∀c∈lJ l r.name,c.cols.length<=4096/\c.ocols.length<=4096):=hide (λc hc=>hb3 c (List.mem_filter.1 hc).1);have yu:Hid ((lJ l r.name).length<=4096):=hide (Nat.le_trans (List.length_filter_le _ _) (by rw[hl.len];exact hb2));have uT:=hide λW h=>qL W Ac nc cc l h r.name hb2;have HD:Hid (xA r l others ws zs=if kX r others zs (lJ l r.name)≠0 then (kX r others zs (lJ l r.name),[],[]) else if aA r.rows≠0 then (aA r.rows,[],[]) else if bZ r.rows=false then (8,[],[]) else (0,r.rows.filter (λx=>(mF r others ws zs (lJ l r.name) (aI x.row)).isEmpty),(r.rows.filter λx=>!(mF r others ws zs (lJ l r.name) (aI x.row)).isEmpty).map λx=>⟨r.name,x.row,x.count,mF r others ws zs (lJ l r.name) (aI x.row)⟩)):=hide rfl;obtain ⟨R,hR⟩: ∃R,xA r l others ws zs=R:=⟨_,rfl⟩;rw[hR]at HD⊢;clear hR;obtain ⟨own,hown⟩: ∃o,lJ l r.name=o:=⟨_,rfl⟩;rw[hown]at HD sF yu uT;clear hown;obtain ⟨VE,Lu⟩: ∃e,kX r others zs own=e:=⟨_,rfl⟩;have Da:=hide Lu;rw[Lu]at HD;obtain ⟨NN,Lr⟩: ∃f,mF r others ws zs own=f:=⟨_,rfl⟩;have C8:=hide Lr;rw[Lr]at HD;clear Lu Lr hb3 hb4;have h63:=hr.le;have HLEN:=hide hr.len;have Ox:=hide hrn;go_enter Tryz.func14,Tryz.ntmps14;have HL:=hide hl;clear hl;have HO:=hide ho;clear ho;have KV:=hide hws;clear hws;have HZ:=hide hz;clear hz;have HW:=hide hw;clear hw;have HC:=hide hc;clear hc;have HR:=hide hr;clear hr;go_upto_region 1 with (fail);obtain ⟨W1,hW1⟩: ∃W,W=w.alloc (.cells #[.string r.name,.slice A1 n1 c1,.slice Ak nk ck,.slice A3 n3 c3] 29):=⟨_,rfl⟩;obtain ⟨hbW1,fA,g0,g1,g2,g3⟩:=gM hW1 rfl;rw[<-hW1];clear hW1;have jH:=hide hbW1;clear hbW1;have LR:=lt_of_cell g0;have MQ:=hide g0;have MR:=hide g1;have MS:=hide g2;have MU:=hide g3;have Fe:=hide LR;have GG:True:=trivial;go_region_held3 (λV=>V.cell? ⟨w.heap.size,0,none⟩=some (.string r.name)/\V.cell? ⟨w.heap.size,1,none⟩=some (.slice A1 n1 c1)/\V.cell? ⟨w.heap.size,2,none⟩=some (.slice Ak nk ck)/\V.cell? ⟨w.heap.size,3,none⟩=some (.slice A3 n3 c3))
  (first|exact ⟨ah Iq.out Fe.out MQ.out,ah Iq.out Fe.out MR.out,ah Iq.out Fe.out MS.out,ah Iq.out Fe.out MU.out⟩|exact ⟨ah AU.out Fe.out MQ.out,ah AU.out Fe.out MR.out,ah AU.out Fe.out MS.out,ah AU.out Fe.out MU.out⟩|exact ⟨g0,g1,g2,g3⟩)
  (first|(clear GG;go_at_call 34;refine (uT.out _ (by exact (HL.out.below jH.out).below (Below.refl _ _).drew)).mono ?_;rintro e w3 ⟨⟨v5,rfl,Na⟩,hb3⟩;have AU:=hide (au hb3);obtain ⟨A5,c5,rfl,hi5⟩:=Na.inn;obtain ⟨m5,Gb⟩: ∃m,own.length=m:=⟨_,rfl⟩;have Kt:=hide Gb;rw[Gb]at hi5;rw[Gb];have Kk:=hide hi5;clear Na hi5 Gb;clear hb3;have Mc:True:=trivial)|(clear Mc;go_at_call 33;refine (Gv.out _ _ _ _ own (by exact Kk.out) (by rw[<-Kt.out];exact yu.out) sF.out (by exact (HC.out.below jH.out).below AU.out) (by exact (HR.out.below jH.out).below AU.out) (by exact (HO.out.below jH.out).below AU.out) (by exact (KV.out.below jH.out).below AU.out) (by exact (HZ.out.below jH.out).below AU.out) (by exact (HW.out.below jH.out).below AU.out)).mono ?_;rintro e w4 ⟨⟨mp,rfl,hmp⟩,hb4⟩;have Iq:=hide (aa AU.out hb4);rw[Da.out]at hmp;rw[Da.out];have Mw:=hide hmp;clear hmp;clear hb4;have Nw:True:=trivial))
 have IY:=Iq.out;clear Nw;have o6:=mO g0 g1 g2 g3;have kw:=hide IY;clear IY;by_cases hv0:VE=0;rotate_left
 ·have q0:(VE==0)=false:=by simpa using hv0
  have q1:(VE != 0)=true:=by simpa using hv0
  obtain rfl:R=(VE,[],[]):=by rw[HD.out,if_pos hv0]
  have iK:=hide (aa jH.out kw.out);obtain ⟨LR,g0,g1,g2,g3⟩:=o6.out _ kw.out;go_wp2;all_goals (try (exfalso;go_light;simp_all;done))
  go_ret3
  exact ⟨⟨none,0,0,none,0,0,rfl,In.nil_,In.nil_⟩,iK.out⟩
 have Hf:=hide (Mw.out hv0);subst hv0;obtain ⟨bm,nm,f,rfl,hnm⟩:=Hf.out;rw[C8.out]at hnm;have Jt:=hide hnm;clear hnm;clear Mw Hf;have HD2:Hid (R=if aA r.rows≠0 then (aA r.rows,[],[]) else if bZ r.rows=false then (8,[],[]) else (0,r.rows.filter (λx=>(NN (aI x.row)).isEmpty),(r.rows.filter λx=>!(NN (aI x.row)).isEmpty).map λx=>⟨r.name,x.row,x.count,NN (aI x.row)⟩)):=hide (by rw[HD.out];simp);clear HD;obtain ⟨LR,g0,g1,g2,g3⟩:=o6.out _ kw.out;go_wp2_with fail;have GU:=hide (aa jH.out kw.out);refine (uh _ A3 n3 c3 r.rows (HR.out.below GU.out)).mono ?_;rintro e w8 ⟨rfl,De⟩;have dH:=hide De;clear De;obtain ⟨BE,Lg⟩: ∃e,aA r.rows=e:=⟨_,rfl⟩;have Ai:=hide Lg;rw[Lg]at HD2⊢;clear Lg;by_cases hv0:BE=0;rotate_left
 ·have q1:(BE != 0)=true:=by simpa using hv0
  obtain rfl:R=(BE,[],[]):=by rw[HD2.out,if_pos hv0]
  have iK:=hide (aa (aa jH.out kw.out) dH.out);have Dl:=hide (aa kw.out dH.out);obtain ⟨LR,g0,g1,g2,g3⟩:=o6.out _ Dl.out;go_wp2;all_goals (try (exfalso;go_light;simp_all;done))
  go_ret3
  exact ⟨⟨none,0,0,none,0,0,rfl,In.nil_,In.nil_⟩,iK.out⟩
 subst hv0;have wV:=hide (aa kw.out dH.out);obtain ⟨LR,g0,g1,g2,g3⟩:=o6.out _ wV.out;go_wp2_with fail;have lH:=hide (aa (aa jH.out kw.out) dH.out);refine (oH _ A3 n3 c3 r.rows (HR.out.below lH.out)).mono ?_;rintro e J3 ⟨rfl,ut⟩;have kv:=hide (aa dH.out ut);clear ut;cases hit:bZ r.rows
 ·obtain rfl:R=(8,[],[]):=by rw[HD2.out,hit];simp
  have iK:=hide (aa (aa jH.out kw.out) kv.out);have Ka:=hide (aa kw.out kv.out);obtain ⟨LR,g0,g1,g2,g3⟩:=o6.out _ Ka.out;go_wp2;all_goals (try (exfalso;go_light;simp_all;done))
  go_ret3
  exact ⟨⟨none,0,0,none,0,0,rfl,In.nil_,In.nil_⟩,iK.out⟩
 have HD3:Hid (R=(0,r.rows.filter (λx=>(NN (aI x.row)).isEmpty),(r.rows.filter λx=>!(NN (aI x.row)).isEmpty).map λx=>⟨r.name,x.row,x.count,NN (aI x.row)⟩)):=hide (by rw[HD2.out,hit];simp);obtain ⟨hrl,Pf⟩:=eB Ai.out hit;have Pb:n3<=4096:=by rw[<-HLEN.out];exact hrl
 have HRW:Hid (∀x∈r.rows,x.row.length<=12):=hide (λx hx=>by
  have h1:=((dM.1 Ai.out).2.1 x hx).1;rw[aS]at h1;by_cases q:12<x.row.length\/x.count < -65536\/65536<x.count
  ·rw[if_pos q]at h1;omega
  ·omega)
 clear HD2 hit hrl Pf;obtain ⟨Wb,IE⟩: ∃W,W=J3:=⟨_,rfl⟩;have hnw:=(Jt.out.below kv.out);have uP:=hide (aa (aa jH.out kw.out) kv.out);have hrw:=(HR.out.below uP.out);have hbw:=(aa (aa jH.out kw.out) kv.out);have Fy:=hide (aa kw.out kv.out);obtain ⟨LR,g0,g1,g2,g3⟩:=o6.out _ Fy.out;rw[<-IE]at hnw hrw hbw g0 g1 g2 g3 LR⊢;clear IE;have l6:=hide hbw;have FK:=hide hnw;have Ju:=hide hrw;clear hrw;have Gx:=lt_of_cell g0;go_wp2;all_goals (try (exfalso;go_light;simp_all;done));go_loopw [15,16,48] (λt h i wr=> ∃(k:Nat) (ys:List Ent) (qs:List Quar),k<=n3/\i=.int .i64 k/\ys=(r.rows.take k).filter (λx=>(NN (aI x.row)).isEmpty)/\qs=((r.rows.take k).filter λx=>!(NN (aI x.row)).isEmpty).map (λx=>⟨r.name,x.row,x.count,NN (aI x.row)⟩)/\ys.length<=k/\qs.length<=k/\OL 50 Wb.heap.size (λ_=>False) [36] wr t ys/\OL 57 Wb.heap.size (λ_=>True) [36] wr h qs/\Below Wb.heap.size Wb wr) (λ_ _ i _=>n3-(RowKit.intOf i).toNat)
 case atStart=>exact ⟨0,[],[],Nat.zero_le _,rfl,by simp,by simp,by simp,by simp,OL.nil (Nat.le_refl _),OL.nil (Nat.le_refl _),Below.refl _ _⟩
 case round=>
  obtain ⟨k,ys,qs,hk,rfl,hys,Nf,hyl,Pd,hot,Nb,hb⟩:=hrel;have AO:=hide hys;have KF:=hide Nf;clear hys Nf;have Mg:=Bh g0 g3;have jI:=hide hb;clear hb;have Gt:=hide hot;clear hot;have Ky:=hide Nb;clear Nb;by_cases hlt:k<n3
  ·obtain ⟨b,off,x,rfl,hBb,HX,Ax,An,Mh,e0,e1,e2,e3⟩:=(Ju.out.below jI.out).ent hlt;have k0:(0:Int)<=(k:Int):=by omega
   have k1:(k:Int)<(n3:Int):=by omega
   have hxm:=aW HX.out;have hrl:An<=1048576:=by have h1:=HRW.out x hxm;rw[e2.len]at h1;omega
   have EW:=hide e3;have HE2:=hide e2;clear e2;have Kr:=hide jI.out;obtain ⟨Gx,g0,g3⟩:=Mg.out _ jI.out;go_wp2_with fail;obtain ⟨W5,mg⟩: ∃W,W=wr.alloc (.cells #[.slice Ax An Mh,.int .i64 x.count] 50):=⟨_,rfl⟩;obtain ⟨iC,uX,x0,x1⟩:=pY mg rfl;rw[<-mg];clear mg;have uf:=hide iC;clear iC;have L5:=lt_of_cell x0;clear e0 e1;have Dm:=hide (aa jI.out uf.out);obtain ⟨Gx,g0,g3⟩:=Mg.out _ Dm.out;go_wp2_with fail;refine (sN _ Ax An Mh x.row (HE2.out.below uf.out) hrl).mono ?_;rintro e J4 ⟨⟨A6,c6,rfl,hs6⟩,IL⟩;have GH:=uO (Bh g0 g3) (Bh x0 x1);have gU:=hide IL;clear IL;have M4:In J4 A6 An c6 x.row:=In.of_sl hs6 λk hk=>hk.2.lt;have Hy:=hide (hs6.mono λk hk=>show BS Wb.heap.size (λ_=>False) [36] J4 k from .inr ⟨Nat.le_trans Kr.out.size (by have:=hk.1;have:=uX.out;omega),_,by simp,hk.2⟩);clear hs6;have Ah:=hide (show Wb.heap.size<=J4.heap.size from (aa (aa jI.out uf.out) gU.out).size);obtain ⟨W6,Lx⟩: ∃W,W=J4:=⟨_,rfl⟩;have Mm:=hide Lx;rw[<-Lx]at Hy Ah;clear Lx;have Oc:=hide M4;clear M4;have wT:=hide (iI x.row);have MN:Hid (∀(p:Ent->Bool) (g:Ent->Quar),((r.rows.take (k+1)).filter p).map g=if p x=true then ((r.rows.take k).filter p).map g++[g x] else ((r.rows.take k).filter p).map g):=hide (λp g=>by rw[bf HX.out,zq]);have MM:Hid (∀(p:Ent->Bool),(r.rows.take (k+1)).filter p=if p x=true then (r.rows.take k).filter p++[x] else (r.rows.take k).filter p):=hide (λp=>by rw[bf HX.out,List.filter_append,List.filter_cons];cases p x <;> simp);have Gu:=hide λW h=>qX W A6 An c6 x.row h;obtain ⟨T,hT⟩: ∃T,aI x.row=T:=⟨_,rfl⟩;have HT:=hide hT;rw[hT]at Gu wT;clear hT;obtain ⟨⟨Gx,g0,g3⟩,L5,x0,x1⟩:=GH.out _ gU.out;go_wp2_with fail;refine (Gu.out _ Oc.out).mono ?_;rintro e EO ⟨rfl,Ga⟩;have Il:=hide Ga;have pu:=hide Ga;clear Ga;have Mk:=hide Il.out;have FD:=hide (aa (aa (aa jI.out uf.out) gU.out) pu.out);have lk:=FK.out.look Tryz.underlying91 Tryz.underlying9 (λV=>Tryz.zeroValue43 V) wT.out (V:=EO) ((aa (aa (aa jI.out uf.out) gU.out) pu.out).block _ FK.out.lt);obtain ⟨Al,cl,hfl,hsl⟩:=(FK.out.own T).sl;rw[hfl]at lk;obtain ⟨ml,LQ⟩: ∃m,(NN T).length=m:=⟨_,rfl⟩;rw[LQ]at lk hsl;have Gs:=hide LQ;have Jv:=hide hsl;clear hfl LQ hsl;have Jh:=hyl;have Pe:=Pd;have BV:ys.length+1<=maxLen:=by simp only[maxLen];omega
   have BX:(ys.length+1)*32<=140737488355328:=by omega
   have LG:qs.length+1<=maxLen:=by simp only[maxLen];omega
   have LH:(qs.length+1)*72<=140737488355328:=by omega
   by_cases hm0:ml=0
   ·have hem:(NN (aI x.row)).isEmpty=true:=by rw[HT.out,List.isEmpty_iff];exact List.eq_nil_of_length_eq_zero (by rw[Gs.out];exact hm0)
    have yU:Hid (ys++[x]=(r.rows.take (k+1)).filter (λx=>(NN (aI x.row)).isEmpty)):=hide (by rw[MM.out,if_pos hem,AO.out]);have fM:Hid (qs=((r.rows.take (k+1)).filter λx=>!(NN (aI x.row)).isEmpty).map (λx=>⟨r.name,x.row,x.count,NN (aI x.row)⟩)):=hide (by rw[MN.out,if_neg (by simp[hem]),KF.out]);have Hr:Hid (Rep.rd EO (BS Wb.heap.size (λ_=>False) [36] EO) [.slice A6 An c6,.int .i64 x.count] x):=hide ⟨A6,An,c6,rfl,oQ Hy.out Ah.out (Mm.out▸Mk.out),EW.out⟩;have GK:=hide (aa (aa uf.out gU.out) pu.out);have Jw:=hide (Gt.out.below GK.out);have Jq:=hide (Ky.out.below GK.out);subst hm0;clear hem;have yS:=hide (aa gU.out pu.out);obtain ⟨⟨Gx,g0,g3⟩,L5,x0,x1⟩:=GH.out _ yS.out;go_wp2_with (at_builtin;refine aT _ rfl _ _ _ rfl sO (by decide) EO _ rfl Jw.out rfl rfl x Hr.out BV BX ?_;intro v9 w9 lW eH mi gX);all_goals (try (exfalso;go_light;simp_all;done));have uS:=hide lW;have lI:=hide (FD.out.trans eH);have KD:=hide (Jq.out.besideT Jw.out (by decide) (by decide) mi);clear lW eH mi gX;go_wp2;all_goals (try (exfalso;go_light;simp_all;done));go_roundw
    case rel=>exact ⟨k+1,ys++[x],qs,by omega,by go_num,yU.out,fM.out,by simp;omega,by omega,uS.out,KD.out,lI.out⟩
    case measure=>simp[RowKit.intOf];omega
   ·have hem:(NN (aI x.row)).isEmpty=false:=by
     rw[HT.out];cases h:NN T with
     |nil=>exact absurd (by rw[<-Gs.out,h];rfl) hm0
     |cons _ _=>rfl
    have yU:Hid (ys=(r.rows.take (k+1)).filter (λx=>(NN (aI x.row)).isEmpty)):=hide (by rw[MM.out,if_neg (by simp[hem]),AO.out]);have fM:Hid (qs++[⟨r.name,x.row,x.count,NN T⟩]=((r.rows.take (k+1)).filter λx=>!(NN (aI x.row)).isEmpty).map (λx=>⟨r.name,x.row,x.count,NN (aI x.row)⟩)):=hide (by rw[MN.out,if_pos (by simp[hem]),KF.out,HT.out]);have KP:Hid (Sl EO (BS Wb.heap.size (λ_=>True) [36] EO) Al ml cl (NN T)):=hide ((Sl.keep (λk hk=>FD.out.block k (hk.lt (FK.out.own T).base)) Jv.out).mono λk hk=>.inl ⟨trivial,hk.lt (FK.out.own T).base⟩);have Hr:Hid (Rep.rd EO (BS Wb.heap.size (λ_=>True) [36] EO) [.string r.name,.slice A6 An c6,.int .i64 x.count,.slice Al ml cl] (⟨r.name,x.row,x.count,NN T⟩:Quar)):=hide ⟨A6,An,c6,Al,ml,cl,rfl,(oQ Hy.out Ah.out (Mm.out▸Mk.out)).mono (λk hk=>by
     rcases hk with ⟨hk,_⟩|hk
     ·exact hk.elim
     ·exact .inr hk),KP.out,Ox.out,EW.out⟩
    have GM:=hide (aa (aa uf.out gU.out) pu.out);have Jw:=hide (Gt.out.below GM.out);have Jq:=hide (Ky.out.below GM.out);have d0:(0:Int)<(ml:Int):=by omega
    clear hem;have FC:=hide (aa gU.out pu.out);obtain ⟨⟨Gx,g0,g3⟩,L5,x0,x1⟩:=GH.out _ FC.out;go_wp2_with (at_builtin;refine aT _ rfl _ _ _ rfl zh (by decide) EO _ rfl Jq.out rfl rfl (⟨r.name,x.row,x.count,NN T⟩:Quar) Hr.out LG LH ?_;intro v9 w9 lW eH mi gX);all_goals (try (exfalso;go_light;simp_all;done));have uS:=hide lW;have lI:=hide (FD.out.trans eH);have KD:=hide (Jw.out.besideT Jq.out (by decide) (by decide) mi);clear lW eH mi gX;go_wp2;all_goals (try (exfalso;go_light;simp_all;done));go_roundw
    case rel=>exact ⟨k+1,ys,qs++[⟨r.name,x.row,x.count,NN T⟩],by omega,by go_num,yU.out,fM.out,by omega,by simp;omega,KD.out,uS.out,lI.out⟩
    case measure=>simp[RowKit.intOf];omega
  ·have Ia:Hid (r.rows.take k=r.rows):=hide (List.take_of_length_le (by rw[HLEN.out];omega));obtain rfl:R=(0,ys,qs):=by rw[HD3.out,AO.out,KF.out,Ia.out]
   obtain ⟨Ay,cy,rfl,M7⟩:=Gt.out.inn;obtain ⟨Aq,cq,rfl,M6⟩:=Ky.out.inn;have Oh:=hide M7;have Og:=hide M6;have Kh:=hide (aa l6.out jI.out);clear M7 M6;obtain ⟨Gx,g0,g3⟩:=Mg.out _ jI.out;go_wp2
   go_ret3
   exact ⟨⟨_,_,_,_,_,_,rfl,Oh.out,Og.out⟩,Kh.out⟩
end Go.Proofs.YtopjjlmfilgngaaGreatDoor
