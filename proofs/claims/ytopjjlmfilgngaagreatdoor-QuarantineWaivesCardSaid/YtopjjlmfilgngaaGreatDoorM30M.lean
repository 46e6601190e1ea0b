/-
  warehouselaw30.made. (Printed by gen_m30.py.)
-/
import Derived.Deep.CutRange
import Derived.Deep.DeepCutAuto
import Derived.Test.YtopjjlmfilgngaaGreatDoorGbg
namespace Go.Proofs.YtopjjlmfilgngaaGreatDoor
set_option maxHeartbeats 8000000
set_option maxRecDepth 100000
open Go.RowKit Go.Maps
set_option linter.unusedSimpArgs false
set_option linter.unusedVariables false
theorem KQ {V:World}{d k:Nat}(h:dC V d 9 [.string ⟨#[97]⟩,.string ⟨#[98]⟩,.string ⟨#[99]⟩,.string ⟨#[100]⟩,.string ⟨#[101]⟩])(hk:k<5):V.cell? ⟨d,k,none⟩=some (.string (kD k)):=by
 have hk:k=0\/k=1\/k=2\/k=3\/k=4:=by omega
 rcases hk with rfl|rfl|rfl|rfl|rfl <;> exact h.at _ rfl
theorem dC.set14 {w:World}{g:Nat}{t:TypeId}{l:List Value}(h:dC w g t l){a0 a1 a2 a3 a4 a5 a6 a7 a8 a9 a10 a11 a12 a13:Value}(hl:l.length=14):dC ((((((((((((((w.setCell ⟨g,0,none⟩ a0).setCell ⟨g,1,none⟩ a1).setCell ⟨g,2,none⟩ a2).setCell ⟨g,3,none⟩ a3).setCell ⟨g,4,none⟩ a4).setCell ⟨g,5,none⟩ a5).setCell ⟨g,6,none⟩ a6).setCell ⟨g,7,none⟩ a7).setCell ⟨g,8,none⟩ a8).setCell ⟨g,9,none⟩ a9).setCell ⟨g,10,none⟩ a10).setCell ⟨g,11,none⟩ a11).setCell ⟨g,12,none⟩ a12).setCell ⟨g,13,none⟩ a13) g t [a0,a1,a2,a3,a4,a5,a6,a7,a8,a9,a10,a11,a12,a13]:=by
 have h1:=(((((((((((((h.set 0 a0).set 1 a1).set 2 a2).set 3 a3).set 4 a4).set 5 a5).set 6 a6).set 7 a7).set 8 a8).set 9 a9).set 10 a10).set 11 a11).set 12 a12).set 13 a13
 match l,hl with
 | [_,_,_,_,_,_,_,_,_,_,_,_,_,_],_=>exact h1
theorem QO (w:World)(g:Nat)(a0 a1 a2 a3 a4 a5 a6 a7 a8 a9 a10 a11 a12 a13:Value):w.grownBy ((((((((((((((w.setCell ⟨g,0,none⟩ a0).setCell ⟨g,1,none⟩ a1).setCell ⟨g,2,none⟩ a2).setCell ⟨g,3,none⟩ a3).setCell ⟨g,4,none⟩ a4).setCell ⟨g,5,none⟩ a5).setCell ⟨g,6,none⟩ a6).setCell ⟨g,7,none⟩ a7).setCell ⟨g,8,none⟩ a8).setCell ⟨g,9,none⟩ a9).setCell ⟨g,10,none⟩ a10).setCell ⟨g,11,none⟩ a11).setCell ⟨g,12,none⟩ a12).setCell ⟨g,13,none⟩ a13) (some g):=
 ((((((((((((bM.trans bM).trans bM).trans bM).trans bM).trans bM).trans bM).trans bM).trans bM).trans bM).trans bM).trans bM).trans bM).trans bM
theorem aU.own {B g:Nat}{a b c:World}(h:aU B a b)(hg:b.grownBy c (some g))(hl:a.heap.size<=g):aU B a c:=
 ⟨Nat.le_trans h.1 hg.size,λk h1 h2=>(hg.block k (Nat.lt_of_lt_of_le h2 h.1) λe=>by injection e with e;omega).trans (h.2 k h1 h2)⟩
def Xk (s:ByteArray):Prop:=s=qL\/s=TQ\/s=nV
theorem Xk.str {s:ByteArray}(h:Xk s):Str s:=by
 rcases h with rfl|rfl|rfl <;> (unfold Str;decide)
theorem Ou {V:World}{B d d0 d1 d2 q:Nat}(hd:dC V d 43 [.slice (some ⟨d0,0,none⟩) 1 1,.slice (some ⟨d1,0,none⟩) 1 1,.slice (some ⟨d2,0,none⟩) 1 1])(h0:B<=d0/\dC V d0 9 [.string qL])(h1:B<=d1/\dC V d1 9 [.string TQ])(h2:B<=d2/\dC V d2 9 [.string nV])(hq:q<3):
  ∃e s,V.cell? ⟨d,q,none⟩=some (.slice (some ⟨e,0,none⟩) 1 1)/\B<=e/\dC V e 9 [.string s]/\Xk s:=by
 have hq:q=0\/q=1\/q=2:=by omega
 rcases hq with rfl|rfl|rfl
 ·exact ⟨d0,qL,hd.at 0 rfl,h0.1,h0.2,.inl rfl⟩
 ·exact ⟨d1,TQ,hd.at 1 rfl,h1.1,h1.2,.inr (.inl rfl)⟩
 ·exact ⟨d2,nV,hd.at 2 rfl,h2.1,h2.2,.inr (.inr rfl)⟩
theorem zF {V0:World}{g Bo:Nat}{s:ByteArray}(hs:Str s)(hg:V0.heap.size=g)(hB:Bo<=g):Sl (V0.alloc (.cells #[.string s] 9)) (BS Bo (λ_=>False) [9,89] (V0.alloc (.cells #[.string s] 9))) (some ⟨g,0,none⟩) 1 1 [s]:=by
 subst hg;exact zY (xs:=[s]) (dC.made _ _ _) hB rfl (by decide) (by simpa using hs)
theorem Jw {V0:World}{g Bo:Nat}(hg:V0.heap.size=g)(hB:Bo<=g):Sl (V0.alloc (.cells (Kz.flatMap Node.cells).toArray 89)) (BS Bo (λ_=>False) [9,89] (V0.alloc (.cells (Kz.flatMap Node.cells).toArray 89))) (some ⟨g,0,none⟩) 3 3 Kz:=by
 subst hg;exact TU (dC.made _ _ _) hB
theorem pK.mk {Bo k g:Nat}{V:World}(cc:Chk){A':Option Addr}{n' c':Nat}{aX:Option Addr}{n'' c'':Nat}{A3:Option Addr}{n3 c3:Nat}(h1:jr cc)(h2:cc.name=kD k)(Ns:Str cc.table)(h3:dC V g 48 (aB cc A' n' c' aX n'' c'' A3 n3 c3))(h4:Lt Bo V A' n' c' aX n'' c'' A3 n3 c3 cc):pK Bo k V g:=⟨cc,A',n',c',aX,n'',c'',A3,n3,c3,h1,h2,Ns,h3,h4⟩
theorem wz {k:Nat}{p:Int}(hp:p=0\/p=1):(∀s,Xk s-> ∀x:Int,x=0\/x=1->jr (kw (kD k) nR x [s] ⟨#[]⟩ [] 0 [] p))/\jr (kw (kD k) nR 2 [nV] ⟨#[]⟩ [] 3 [] p)/\jr (kw (kD k) nR 3 [qL] nO [qL] 0 [] p)/\jr (kw (kD k) nR 4 [] ⟨#[]⟩ [] 0 Kz p):=by
 refine ⟨λs hs x hx=>⟨p,hp,?_⟩,⟨p,hp,?_⟩,⟨p,hp,?_⟩,⟨p,hp,?_⟩⟩
 ·rcases hs with rfl|rfl|rfl <;> rcases hx with rfl|rfl <;> simp[oZ,kw]
 ·simp[oZ,kw]
 ·simp[oZ,kw]
 ·simp[oZ,kw]
theorem Nh (wc:World): ∃V4,V4=(((wc.alloc (.cells #[.string ⟨#[110,97,109,101]⟩] 9)).alloc (.cells #[.string ⟨#[105,100]⟩] 9)).alloc (.cells #[.string ⟨#[118]⟩] 9)).alloc (.cells #[.slice (some ⟨wc.heap.size,0,none⟩) 1 1,.slice (some ⟨wc.heap.size+1,0,none⟩) 1 1,.slice (some ⟨wc.heap.size+1+1,0,none⟩) 1 1] 43)/\Below wc.heap.size wc V4/\dC V4 wc.heap.size 9 [.string qL]/\dC V4 (wc.heap.size+1) 9 [.string TQ]/\dC V4 (wc.heap.size+1+1) 9 [.string nV]/\dC V4 (wc.heap.size+1+1+1) 43 [.slice (some ⟨wc.heap.size,0,none⟩) 1 1,.slice (some ⟨wc.heap.size+1,0,none⟩) 1 1,.slice (some ⟨wc.heap.size+1+1,0,none⟩) 1 1]:=by
 refine ⟨_,rfl,aa below_alloc2 below_alloc2,(dC.made wc _ _).below (aa below_alloc2 ae),?_,?_,?_⟩
 ·have h:=dC.made (wc.alloc (.cells #[.string ⟨#[110,97,109,101]⟩] 9)) #[.string ⟨#[105,100]⟩] 9;rw[World.size_alloc]at h;exact h.below below_alloc2
 ·have h:=dC.made ((wc.alloc (.cells #[.string ⟨#[110,97,109,101]⟩] 9)).alloc (.cells #[.string ⟨#[105,100]⟩] 9)) #[.string ⟨#[118]⟩] 9;rw[World.size_alloc,World.size_alloc]at h;exact h.below ae
 ·have h:=dC.made (((wc.alloc (.cells #[.string ⟨#[110,97,109,101]⟩] 9)).alloc (.cells #[.string ⟨#[105,100]⟩] 9)).alloc (.cells #[.string ⟨#[118]⟩] 9)) #[.slice (some ⟨wc.heap.size,0,none⟩) 1 1,.slice (some ⟨wc.heap.size+1,0,none⟩) 1 1,.slice (some ⟨wc.heap.size+1+1,0,none⟩) 1 1] 43;rw[World.size_alloc,World.size_alloc,World.size_alloc]at h;exact h
theorem om {c:Prop}[Decidable c]{p q:Prop}(hc:c)(h:p):if c then p else q:=by rw[if_pos hc];exact h
theorem Jz {V:World}{g e:Nat}{a b:Value}(h:V.heap[g]?=some (.cells #[a,b] e (0,0))):Src V 2 (some ⟨g,0,none⟩) 1 [a,b]:=
 ⟨rfl,λ_=>⟨g,0,rfl,λj u hu=>by
  rw[Nat.zero_add,cell_of_row V g j _ e (0,0) h];simpa using hu⟩⟩
theorem Sl.at0 {α:Type}[Rep α]{w:World}{S:Nat->Prop}{A:Option Addr}{n c:Nat}{xs:List α}(h:Sl w S A n c xs)(hn:0<n): ∃b o,A=some ⟨b,o,none⟩:=by
 obtain ⟨b,o,e,_⟩:=h.2.2.2.2 hn;exact ⟨b,o,e⟩
theorem OH {V:World}{S:Nat->Prop}{b5 o5 n c:Nat}{xs:List Ent}(h:Sl V S (some ⟨b5,o5,none⟩) n c xs){q:Nat}(hq:q<n): ∃Ax nx cx,∃row:List Val,V.cell? ⟨b5,o5+q*2,none⟩=some (.slice Ax nx cx)/\Sl V S Ax nx cx row:=by
 obtain ⟨b,o,e,_,hi⟩:=h.2.2.2.2 (by omega);injection e with e;injection e with e1 e2;subst e1 e2;obtain ⟨cs,⟨Ax,nx,cx,rfl,h1,_⟩,h2⟩:=hi q (by rw[h.1];exact hq);exact ⟨Ax,nx,cx,_,h2 0 (by simp),h1⟩
theorem OL.upO {α:Type}[Rep α]{e:TypeId}{B Bo:Nat}{T:List TypeId}{V V':World}{v:Value}{xs:List α}(h:OL e Bo (λz=>B<=z) T V v xs){r:Option Nat}(hg:V.grownBy V' r)(hr: ∀k,r=some k->k<B/\k<Bo):OL e Bo (λz=>B<=z) T V' v xs:=
 h.grown hg λk hk=>⟨λq=>by have:=hr k hk;have:=(h.ty q).1;omega,λq=>by
  have h1:=hr k hk;rcases q with ⟨q,_⟩|⟨q,_⟩ <;> omega⟩
theorem OL.upW {α:Type}[Rep α]{e:TypeId}{B Bo:Nat}{V V':World}{v:Value}{xs:List α}(h:OL e Bo (λz=>B<=z) [] V v xs)(hu:aU B V V')(hB:B<=Bo):OL e Bo (λz=>B<=z) [] V' v xs:=
 h.kept (λk hk=>by
  rcases hk with (⟨h1,h2⟩|⟨_,t,ht,_⟩)|hk
  ·exact hu.2 k h1 (Nat.lt_of_lt_of_le h2 h.base)
  ·cases ht
  ·exact hu.2 k (Nat.le_trans hB (h.ty hk).1) (h.ty hk).2.lt) hu.1
def bR:Nat->List Nat
 | 4=>[3]
 | 5=>[2,4]
 | 6=>[1,5]
 | 7=>[6]
 | 8=>[7]
 | 10=>[9]
 | 13=>[12]
 | 14=>[13]
 | 15=>[11,14,5]
 | 16=>[10,15]
 | 17=>[16]
 | 18=>[17]
 | 19=>[8,18]
 | 20=>[19]
 | 21=>[0,20,15]
 | 22=>[21]
 | _=>[]
def wH:Nat->Nat
 | 21=>0
 | 22=>21
 |j=>j
def MG:Nat->List Nat
 | 20=>[21]
 | _=>[]
def Eu (B s0:Nat)(g5 gg b5 o5 m5 c5 bc oc mc cq:Nat)(wv:Value)(ws:List Wvr):Nat->Value->Value->World->Prop
 | 0,v,u,V=>v=wv
 | 1,v,u,V=>v=.slice (some ⟨bc,oc,none⟩) mc cq
 | 2,v,u,V=>v=.pointer (some ⟨gg,0,none⟩)
 | 3,v,u,V=>v=.slice (some ⟨bc,oc,none⟩) mc cq
 | 4,v,u,V=>v=.int .i64 (mc:Int)
 | 5,v,u,V=> ∃q:Nat,v=.int .i64 (q:Int)/\q<mc
 | 6,v,u,V=> ∃q:Nat,v=.pointer (some ⟨bc,oc+q*14,none⟩)/\q<mc
 | 7,v,u,V=> ∃q:Nat,v=.pointer (some ⟨bc,oc+q*14,none⟩)/\q<mc
 | 8,v,u,V=> ∃s,v=.string s/\Str s
 | 9,v,u,V=>v=.pointer (some ⟨g5,3,none⟩)
 | 10,v,u,V=>v=.slice (some ⟨b5,o5,none⟩) m5 c5
 | 11,v,u,V=>v=.pointer (some ⟨gg,0,none⟩)
 | 12,v,u,V=>v=.pointer (some ⟨g5,3,none⟩)
 | 13,v,u,V=>v=.slice (some ⟨b5,o5,none⟩) m5 c5
 | 14,v,u,V=>v=.int .i64 (m5:Int)
 | 15,v,u,V=> ∃q:Nat,v=.int .i64 (q:Int)/\q<m5
 | 16,v,u,V=> ∃q:Nat,v=.pointer (some ⟨b5,o5+q*2,none⟩)/\q<m5
 | 17,v,u,V=> ∃q:Nat,v=.pointer (some ⟨b5,o5+q*2,none⟩)/\q<m5
 | 18,v,u,V=> ∃Ax nx cx,∃row:List Val,v=.slice Ax nx cx/\(Sl V (λz=>B<=z/\z<s0) Ax nx cx row)/\s0<=V.heap.size
 | 19,v,u,V=> ∃s Ax nx cx,∃row:List Val,v=.agg #[.string s,.slice Ax nx cx]/\(Sl V (λz=>B<=z/\z<s0) Ax nx cx row)/\s0<=V.heap.size/\Str s
 | 20,v,u,V=> ∃g s Ax nx cx,∃row:List Val,v=.slice (some ⟨g,0,none⟩) 1 1/\B<=g/\V.heap[g]?=some (.cells #[.string s,.slice Ax nx cx] 33 (0,0))/\(Sl V (λz=>B<=z/\z<s0) Ax nx cx row)/\s0<=V.heap.size/\Str s
 | 21,v,u,V=> ∃x:Wvr,B<=s0/\OL 33 s0 (λz=>B<=z) [] V v (ws++[x])
 | 22,v,u,V=> ∃x:Wvr,B<=s0/\OL 33 s0 (λz=>B<=z) [] V v (ws++[x])
 | _,_,_,_=>True
theorem KA: ∀j,wH j=j\/wH j∈bR j:=λj=>by
 match j with
 | 21=>exact .inr (by simp[wH,bR])
 | 22=>exact .inr (by simp[wH,bR])
 |j=>first|exact .inl rfl|(unfold wH;split <;> first|exact .inl rfl|exact .inr (by simp[bR]))
theorem LU (B s0:Nat)(g5 gg b5 o5 m5 c5 bc oc mc cq:Nat)(wv:Value)(ws:List Wvr): ∀j v u V V',(aU B) V V'->Eu B s0 g5 gg b5 o5 m5 c5 bc oc mc cq wv ws j v u V->Eu B s0 g5 gg b5 o5 m5 c5 bc oc mc cq wv ws j v u V':=λj v u V V' h q=>by
 match j,q with
 | 0,q=>exact q
 | 1,q=>exact q
 | 2,q=>exact q
 | 3,q=>exact q
 | 4,q=>exact q
 | 5,q=>exact q
 | 6,q=>exact q
 | 7,q=>exact q
 | 8,q=>exact q
 | 9,q=>exact q
 | 10,q=>exact q
 | 11,q=>exact q
 | 12,q=>exact q
 | 13,q=>exact q
 | 14,q=>exact q
 | 15,q=>exact q
 | 16,q=>exact q
 | 17,q=>exact q
 | 18,q=>exact (by obtain ⟨Ax,nx,cx,row,e,h3,h4⟩:=q;exact ⟨Ax,nx,cx,row,e,Sl.keep (λz hz=>h.2 z hz.1 (Nat.lt_of_lt_of_le hz.2 h4)) h3,Nat.le_trans h4 h.1⟩)
 | 19,q=>exact (by obtain ⟨s,Ax,nx,cx,row,e,h3,h4,h5⟩:=q;exact ⟨s,Ax,nx,cx,row,e,Sl.keep (λz hz=>h.2 z hz.1 (Nat.lt_of_lt_of_le hz.2 h4)) h3,Nat.le_trans h4 h.1,h5⟩)
 | 20,q=>exact (by obtain ⟨g,s,Ax,nx,cx,row,e,h1,h2,h3,h4,h5⟩:=q;exact ⟨g,s,Ax,nx,cx,row,e,h1,(h.2 g h1 (Array.getElem?_eq_some_iff.1 h2).1).trans h2,Sl.keep (λz hz=>h.2 z hz.1 (Nat.lt_of_lt_of_le hz.2 h4)) h3,Nat.le_trans h4 h.1,h5⟩)
 | 21,q=>exact (by obtain ⟨x,h1,h2⟩:=q;exact ⟨x,h1,h2.upW h h1⟩)
 | 22,q=>exact (by obtain ⟨x,h1,h2⟩:=q;exact ⟨x,h1,h2.upW h h1⟩)
 |(n+23),_=>exact trivial
theorem JE (B s0:Nat)(g5 gg b5 o5 m5 c5 bc oc mc cq:Nat)(wv:Value)(ws:List Wvr): ∀j v u V V',j≠20->j≠21->j≠22->V.heap.size<=V'.heap.size->(∀z,B<=z->z<V.heap.size->z<s0->V'.heap[z]?=V.heap[z]?)->Eu B s0 g5 gg b5 o5 m5 c5 bc oc mc cq wv ws j v u V->Eu B s0 g5 gg b5 o5 m5 c5 bc oc mc cq wv ws j v u V':=λj v u V V' h20 h21 h22 hsz h q=>by
 match j,q,h20,h21,h22 with
 | 0,q,h20,h21,h22=>exact q
 | 1,q,h20,h21,h22=>exact q
 | 2,q,h20,h21,h22=>exact q
 | 3,q,h20,h21,h22=>exact q
 | 4,q,h20,h21,h22=>exact q
 | 5,q,h20,h21,h22=>exact q
 | 6,q,h20,h21,h22=>exact q
 | 7,q,h20,h21,h22=>exact q
 | 8,q,h20,h21,h22=>exact q
 | 9,q,h20,h21,h22=>exact q
 | 10,q,h20,h21,h22=>exact q
 | 11,q,h20,h21,h22=>exact q
 | 12,q,h20,h21,h22=>exact q
 | 13,q,h20,h21,h22=>exact q
 | 14,q,h20,h21,h22=>exact q
 | 15,q,h20,h21,h22=>exact q
 | 16,q,h20,h21,h22=>exact q
 | 17,q,h20,h21,h22=>exact q
 | 18,q,h20,h21,h22=>exact (by obtain ⟨Ax,nx,cx,row,e,h3,h4⟩:=q;exact ⟨Ax,nx,cx,row,e,Sl.keep (λz hz=>h z hz.1 (Nat.lt_of_lt_of_le hz.2 h4) hz.2) h3,Nat.le_trans h4 hsz⟩)
 | 19,q,h20,h21,h22=>exact (by obtain ⟨s,Ax,nx,cx,row,e,h3,h4,h5⟩:=q;exact ⟨s,Ax,nx,cx,row,e,Sl.keep (λz hz=>h z hz.1 (Nat.lt_of_lt_of_le hz.2 h4) hz.2) h3,Nat.le_trans h4 hsz,h5⟩)
 | 20,q,h20,h21,h22=>exact absurd rfl h20
 | 21,q,h20,h21,h22=>exact absurd rfl h21
 | 22,q,h20,h21,h22=>exact absurd rfl h22
 |(n+23),_,_,_,_=>exact trivial
structure E30 (w Wr:World) (B:Nat) (V:World):Prop where
 up:aU B Wr V
 bel:Below w.heap.size w V
theorem E30.below {w Wr V V':World}{B:Nat}(h:E30 w Wr B V)(hb:Below V.heap.size V V'):E30 w Wr B V':=⟨h.up.trans (aU.below hb),aa h.bel hb⟩
theorem yZ (w:World)(g:Nat)(a0 a1 a2 a3:Value):w.grownBy ((((w.setCell ⟨g,0,none⟩ a0).setCell ⟨g,1,none⟩ a1).setCell ⟨g,2,none⟩ a2).setCell ⟨g,3,none⟩ a3) (some g):=((bM.trans bM).trans bM).trans bM
theorem E30.set4 {w Wr V:World}{B g:Nat}(h:E30 w Wr B V)(hB:g<B)(hw:w.heap.size<=g){a0 a1 a2 a3:Value}:E30 w Wr B ((((V.setCell ⟨g,0,none⟩ a0).setCell ⟨g,1,none⟩ a1).setCell ⟨g,2,none⟩ a2).setCell ⟨g,3,none⟩ a3):=
 ⟨h.up.trans (aU.grown (yZ _ _ _ _ _ _) hB),gJ h.bel (yZ _ _ _ _ _ _) h.bel.size hw⟩
theorem qw {P:Program}{fn:Func}{p q1 q2 q3:Tmp}{ty:TypeId}(h:fn.results= #[.cell p ty,.tmp q1,.tmp q2,.tmp q3])(tmps:Array Value)(w:World)(g:Nat)(cs:List Value)(d:TypeDesc)(u1 u2 u3:Value)(hp:tmps.getD p undef=.pointer (some ⟨g,0,none⟩))(h1:tmps.getD q1 undef=u1)(h2:tmps.getD q2 undef=u2)(h3:tmps.getD q3 undef=u3)(hc: ∀j v,cs[j]?=some v->w.cell? ⟨g,j,none⟩=some v)(hu:P.underlying ty=some d)(hd:(match d with| .struct _| .array _ _=>true| _=>false)=true)(hi:(P.info? ty).map (·.size)=some cs.length):
  (results fn tmps).run P w=.ok (.tuple #[.agg cs.toArray,u1,u2,u3]) w:=by
 have h9:=bJ (P:=P) (fn:={fn with results:= #[.cell p ty]}) (p:=p) (ty:=ty) rfl tmps w g cs d hp hc hu hd hi;have hp':tmps[p]?.getD undef=.pointer (some ⟨g,0,none⟩):=by simpa using hp
 have hl:(loadVar ty ⟨g,0,none⟩).run P w=.ok (.agg cs.toArray) w:=by
  simp only[results]at h9;simpa[hp',asAddr,Sem.run_bind,Result.andThen] using h9
 have e1:tmps[q1]?.getD undef=u1:=by simpa using h1
 have e2:tmps[q2]?.getD undef=u2:=by simpa using h2
 have e3:tmps[q3]?.getD undef=u3:=by simpa using h3
 simp[results,h,hp',e1,e2,e3,asAddr,hl]
theorem pY {V:World}{B1 B3:Option Addr}{g m d:Nat}{rows:List Ent}(hb:dC V g 29 [.string ⟨#[111]⟩,.slice B1 3 3,.slice none 0 0,.slice B3 m d])(h1:In V B1 3 3 gV)(h3:In V B3 m d rows):In V (some ⟨g,0,none⟩) 1 1 [rM rows []]:=
 iZ hb (Cells.one ⟨_,_,_,_,_,_,_,_,_,rfl,h1,In.nil_,h3,gQ.2.2.2.2.2.2.2.2.2.2⟩) rfl (by decide)
theorem OL.upB {α:Type}[Rep α]{e:TypeId}{B B':Nat}{T:List TypeId}{V V':World}{v:Value}{xs:List α}(h:OL e B' (λ_=>False) T V v xs)(hu:aU B V V')(hB:B<=B'):OL e B' (λ_=>False) T V' v xs:=
 h.up30 ⟨hu.1,λk h1 h2=>hu.2 k (Nat.le_trans hB h1) h2⟩
theorem DX {ks:List Nat}(h:ks.Nodup)(h5: ∀j∈ks,j<5):(ks.map kD).Nodup:=by
 induction ks with
 |nil=>simp
 |cons a l ih=>
  rw[List.nodup_cons]at h;rw[List.map_cons,List.nodup_cons];refine ⟨λhm=>?_,ih h.2 λj hj=>h5 j (by simp[hj])⟩;obtain ⟨b,hb,e⟩:=List.mem_map.1 hm;have:=Og (h5 b (by simp[hb])) (h5 a (by simp)) e;subst this;exact h.1 hb
def dS:Nat->List Nat
 | 3=>[2]
 | 5=>[0]
 | 6=>[1]
 | 7=>[3]
 | 8=>[4]
 | _=>[]
def zy:Nat->Nat
 |j=>j
def MH:Nat->List Nat
 | _=>[]
def Ev (B:Nat)(lv wv:Value)(rr oo:List Value):Nat->Value->Value->World->Prop
 | 0,v,u,V=>v=.agg rr.toArray
 | 1,v,u,V=>v=lv
 | 2,v,u,V=>v=.agg oo.toArray
 | 3,v,u,V=> ∃d,v=.slice (some ⟨d,0,none⟩) 1 1/\B<=d/\dC V d 29 oo
 | 4,v,u,V=>v=wv
 | 5,v,u,V=>True
 | 6,v,u,V=>v=lv
 | 7,v,u,V=> ∃d,v=.slice (some ⟨d,0,none⟩) 1 1/\B<=d/\dC V d 29 oo
 | 8,v,u,V=>v=wv
 | _,_,_,_=>True
theorem wI: ∀j,zy j=j\/zy j∈dS j:=λj=>by
 exact .inl rfl
theorem yt (B:Nat)(lv wv:Value)(rr oo:List Value): ∀j v u V V',(aU B) V V'->Ev B lv wv rr oo j v u V->Ev B lv wv rr oo j v u V':=λj v u V V' h q=>by
 match j,q with
 | 0,q=>exact q
 | 1,q=>exact q
 | 2,q=>exact q
 | 3,q=>exact (by obtain ⟨d,e,h1,h2⟩:=q;exact ⟨d,e,h1,h2.up30 h1 h⟩)
 | 4,q=>exact q
 | 5,q=>exact q
 | 6,q=>exact q
 | 7,q=>exact (by obtain ⟨d,e,h1,h2⟩:=q;exact ⟨d,e,h1,h2.up30 h1 h⟩)
 | 8,q=>exact q
 |(n+9),_=>exact trivial
def ic:Nat->List Nat
 | 2=>[0,1]
 | 3=>[2]
 | 5=>[4]
 | 7=>[6,5]
 | 8=>[7]
 | 9=>[3,5,8]
 | 11=>[10,9]
 | _=>[]
def FN:Nat->Nat
 | 11=>10
 |j=>j
def SH:Nat->List Nat
 | 10=>[11]
 | _=>[]
def LV (B k gh:Nat):Nat->Value->Value->World->Prop
 | 0,v,u,V=> ∃d,v=.slice (some ⟨d,0,none⟩) 5 5/\B<=d/\dC V d 9 [.string ⟨#[97]⟩,.string ⟨#[98]⟩,.string ⟨#[99]⟩,.string ⟨#[100]⟩,.string ⟨#[101]⟩]
 | 1,v,u,V=>v=.int .i64 (k:Int)
 | 2,v,u,V=> ∃d,v=.pointer (some ⟨d,k,none⟩)/\B<=d/\dC V d 9 [.string ⟨#[97]⟩,.string ⟨#[98]⟩,.string ⟨#[99]⟩,.string ⟨#[100]⟩,.string ⟨#[101]⟩]
 | 3,v,u,V=>v=.string (kD k)
 | 4,v,u,V=>v=.pointer (some ⟨gh,0,none⟩)
 | 5,v,u,V=> ∃x:Int,v=.int .i64 x/\0<=x/\x<6
 | 6,v,u,V=>v=.pointer (some ⟨gh,0,none⟩)
 | 7,v,u,V=> ∃x:Int,v=.int .i64 x/\0<=x/\x<4
 | 8,v,u,V=> ∃p:Int,v=.int .i64 p/\(p=0\/p=1)
 | 9,v,u,V=> ∃x p:Int,v=.agg #[.string (kD k),.string ⟨#[114]⟩,.int .i64 x,.slice none 0 0,.string ⟨#[]⟩,.slice none 0 0,.int .i64 0,.int .i64 0,.slice none 0 0,.int .i64 0,.int .i64 0,.int .i64 0,.int .i64 0,.int .i64 p]/\0<=x/\x<6/\(p=0\/p=1)
 | 10,v,u,V=> ∃g,v=.pointer (some ⟨g,0,none⟩)/\B<=g/\dC V g 48 [.string ⟨#[]⟩,.string ⟨#[]⟩,.int .i64 0,.slice none 0 0,.string ⟨#[]⟩,.slice none 0 0,.int .i64 0,.int .i64 0,.slice none 0 0,.int .i64 0,.int .i64 0,.int .i64 0,.int .i64 0,.int .i64 0]
 | 11,v,u,V=> ∃g,u=.pointer (some ⟨g,0,none⟩)/\B<=g/\ ∃x p:Int,0<=x/\x<6/\(p=0\/p=1)/\dC V g 48 [.string (kD k),.string ⟨#[114]⟩,.int .i64 x,.slice none 0 0,.string ⟨#[]⟩,.slice none 0 0,.int .i64 0,.int .i64 0,.slice none 0 0,.int .i64 0,.int .i64 0,.int .i64 0,.int .i64 0,.int .i64 p]
 | _,_,_,_=>True
theorem NY: ∀j,FN j=j\/FN j∈ic j:=λj=>by
 match j with
 | 11=>exact .inr (by simp[FN,ic])
 |j=>first|exact .inl rfl|(unfold FN;split <;> first|exact .inl rfl|exact .inr (by simp[ic]))
theorem Ps (B k gh:Nat): ∀j v u V V',(aU B) V V'->LV B k gh j v u V->LV B k gh j v u V':=λj v u V V' h q=>by
 match j,q with
 | 0,q=>exact (by obtain ⟨d,e,h1,h2⟩:=q;exact ⟨d,e,h1,h2.up30 h1 h⟩)
 | 1,q=>exact q
 | 2,q=>exact (by obtain ⟨d,e,h1,h2⟩:=q;exact ⟨d,e,h1,h2.up30 h1 h⟩)
 | 3,q=>exact q
 | 4,q=>exact q
 | 5,q=>exact q
 | 6,q=>exact q
 | 7,q=>exact q
 | 8,q=>exact q
 | 9,q=>exact q
 | 10,q=>exact (by obtain ⟨d,e,h1,h2⟩:=q;exact ⟨d,e,h1,h2.up30 h1 h⟩)
 | 11,q=>exact (by obtain ⟨g,e,h1,x,p,a1,a2,a3,h2⟩:=q;exact ⟨g,e,h1,x,p,a1,a2,a3,h2.up30 h1 h⟩)
 |(n+12),_=>exact trivial
theorem LW (B k gh:Nat): ∀j v u V V',j≠10->j≠11->(∀d,B<=d->d<V.heap.size->dm V 9 d->V'.heap[d]?=V.heap[d]?)->LV B k gh j v u V->LV B k gh j v u V':=λj v u V V' h10 h11 h q=>by
 match j,q,h10,h11 with
 | 0,q,h10,h11=>exact (by obtain ⟨d,e,h1,h2⟩:=q;exact ⟨d,e,h1,(h d h1 h2.lt h2.ty).trans h2⟩)
 | 1,q,h10,h11=>exact q
 | 2,q,h10,h11=>exact (by obtain ⟨d,e,h1,h2⟩:=q;exact ⟨d,e,h1,(h d h1 h2.lt h2.ty).trans h2⟩)
 | 3,q,h10,h11=>exact q
 | 4,q,h10,h11=>exact q
 | 5,q,h10,h11=>exact q
 | 6,q,h10,h11=>exact q
 | 7,q,h10,h11=>exact q
 | 8,q,h10,h11=>exact q
 | 9,q,h10,h11=>exact q
 | 10,q,h10,h11=>exact absurd rfl h10
 | 11,q,h10,h11=>exact absurd rfl h11
 |(n+12),_,_,_=>exact trivial
def SF (w':World)(e:Ending):Prop:= ∃(A1:Option Addr) (A5:Option Addr) (n5 c5:Nat) (Ac:Option Addr) (nc cc:Nat) (Ao:Option Addr) (Aw:Option Addr) (nw cw:Nat) (rows orows:List Ent) (cs:List Chk) (ws:List Wvr),
 e=.returned (.tuple #[.agg #[.string ⟨#[114]⟩,.slice A1 3 3,.slice none 0 0,.slice A5 n5 c5],.slice Ac nc cc,.slice Ao 1 1,.slice Aw nw cw])/\
 In w' A1 3 3 gV/\In w' A5 n5 c5 rows/\In w' Ac nc cc cs/\In w' Ao 1 1 [rM orows []]/\In w' Aw nw cw ws/\sV gV rows/\sV gV orows/\(∀c∈cs,jr c)/\(cs.map Chk.name).Nodup/\cs.length<=4/\ws.length<=4
theorem Ia (w:World)(A:Option Addr)(n c:Nat)(l:List Int)(hl:In w A n c l)(hn:n<=200)(A2:Option Addr)(n2 c2:Nat)(l2:List Int)(hl2:In w A2 n2 c2 l2)(hn2:n2<=60):
  Calls Tryz.prog 13 #[.slice A n c,.slice A2 n2 c2] w λe w'=>SF w' e/\Below w.heap.size w w':=by
 have HL:=hide hl;have HM:=hide hl2;have h63:=hl.le;have h64:=hl2.le;clear hl hl2;go_enter Tryz.func13,Tryz.ntmps13;go_upto_region 2 with (fail);obtain ⟨yE,rf⟩: ∃W,W=w.alloc (.cells #[.string ⟨#[]⟩,.slice none 0 0,.slice none 0 0,.slice none 0 0] 29):=⟨_,rfl⟩;obtain ⟨g4,hg4⟩: ∃q,q=w.heap.size:=⟨_,rfl⟩;have K4:Hid (dC yE g4 29 [.string ⟨#[]⟩,.slice none 0 0,.slice none 0 0,.slice none 0 0]):=hide (by rw[rf,hg4];exact dC.made _ _ _);have PW:Hid (yE.heap.size=g4+1):=hide (by rw[rf,hg4];exact World.size_alloc _ _);have Da:Hid (Below w.heap.size w yE):=hide (by rw[rf];exact ae);have U2:Hid (w.heap.size<=g4):=hide (by rw[hg4];exact Nat.le_refl _);rw[<-rf,<-hg4];have Yu:=hide hg4;clear rf hg4;have EG:=hide Da.out;obtain ⟨GK,Fh⟩: ∃W,W=yE.alloc (.cells #[.slice A n c,.int .i64 0] 64):=⟨_,rfl⟩;obtain ⟨gg,hgg⟩: ∃q,q=yE.heap.size:=⟨_,rfl⟩;have NG:Hid (dC GK gg 64 [.slice A n c,.int .i64 0]):=hide (by rw[Fh,hgg];exact dC.made _ _ _);have VD:Hid (GK.heap.size=gg+1):=hide (by rw[Fh,hgg];exact World.size_alloc _ _);have Vk:Hid (Below yE.heap.size yE GK):=hide (by rw[Fh];exact ae);have YE:Hid (w.heap.size<=gg):=hide (by rw[hgg];exact EG.out.size);have XA:Hid (¬g4=gg):=hide (by have h:=K4.out.lt;omega);have WI:gg=g4+1:=by rw[hgg];exact PW.out
 rw[<-Fh,<-WI];clear WI;have Yy:=hide hgg;clear Fh hgg;have K4:=hide (K4.out.below Vk.out);have Rv:=hide (aa EG.out Vk.out);obtain ⟨PX,Fj⟩: ∃W,W=GK.alloc (.cells #[.slice A2 n2 c2,.int .i64 0] 64):=⟨_,rfl⟩;obtain ⟨gh,hgh⟩: ∃q,q=GK.heap.size:=⟨_,rfl⟩;have NH:Hid (dC PX gh 64 [.slice A2 n2 c2,.int .i64 0]):=hide (by rw[Fj,hgh];exact dC.made _ _ _);have SZgh:Hid (PX.heap.size=gh+1):=hide (by rw[Fj,hgh];exact World.size_alloc _ _);have SC:Hid (Below GK.heap.size GK PX):=hide (by rw[Fj];exact ae);have YF:Hid (w.heap.size<=gh):=hide (by rw[hgh];exact Rv.out.size);have XB:Hid (¬g4=gh):=hide (by have h:=K4.out.lt;omega);have XD:Hid (¬gg=gh):=hide (by have h:=NG.out.lt;omega);have WJ:gh=gg+1:=by rw[hgh];exact VD.out
 rw[<-Fj,<-WJ];clear WJ;have Yz:=hide hgh;clear Fj hgh;have K4:=hide (K4.out.below SC.out);have NG:=hide (NG.out.below SC.out);have Vl:=hide (aa Rv.out SC.out);have hbw:=Vl.out;have hn1:=zM NG.out HL.out hbw YE.out (by omega);have hn2:=zM NH.out HM.out hbw YF.out (by omega);have hk4:=K4.out;have hgg:=NG.out.lt;have hgh:=NH.out.lt;have vR:Hid (w.heap.size<=g4/\g4<gg/\gg<gh):=hide (by have h1:=U2.out;have h2:=Yy.out;have h3:=Yz.out;have h4:=PW.out;have h5:=VD.out;omega);obtain ⟨Wb,VU⟩: ∃W,W=PX:=⟨_,rfl⟩;rw[<-VU]at hbw hn1 hn2 hk4 hgg hgh⊢;clear VU;have jk:=hide hbw;have CZ:=hide hn1;have fD:=hide hn2;have Ug:=hide hk4;obtain ⟨B,hB⟩: ∃b,b=Wb.heap.size:=⟨_,rfl⟩;rw[<-hB]at hgg hgh;have PR:Hid (B<=Wb.heap.size):=hide (by rw[hB];exact Nat.le_refl _);clear hbw hn1 hn2 hB hk4;clear K4 NG NH;obtain ⟨ga,hga⟩: ∃q,q=Wb.heap.size:=⟨_,rfl⟩;have ZX:B<=ga:=by rw[hga];exact PR.out
 go_wp2_with fail;refine (lq _).mono ?_;rintro e w4 ⟨⟨rfl,hc1⟩,hb4⟩;have Mw:=hide hb4;clear hb4;rw[<-hga]at hc1⊢;have Wl:=Jt hc1 ZX;clear hc1 hga;have Bf:=hide Wl;clear Wl;obtain ⟨gb,hgb⟩: ∃q,q=w4.heap.size:=⟨_,rfl⟩;have ZY:B<=gb:=by rw[hgb];exact Nat.le_trans PR.out Mw.out.size
 go_wp2_with fail;refine (lq _).mono ?_;rintro e w5 ⟨⟨rfl,hc1⟩,hb5⟩;have Bf:=hide (Bf.out.below hb5);have JP:=hide (aa Mw.out hb5);clear hb5;rw[<-hgb]at hc1⊢;have Wm:=Jt hc1 ZY;clear hc1 hgb;have Lv:=hide Wm;clear Wm;have VQ:=Nat.le_trans PR.out JP.out.size;have hn1:=CZ.out.below JP.out;have hn2:=fD.out.below JP.out;have hk4:=Ug.out.below JP.out;have hbw:=aa jk.out JP.out;go_wp2_with fail;refine (CO _ gg A n c l 0 hn1 _ 3 3 (Lv.out.off (by omega)) 9 (by omega) (by omega)).mono ?_;rintro e W3 ⟨⟨A5,c5,rows,W3j,rfl,hi5,WO,RD⟩,hg5⟩;have NL:=hi5.low VQ;have RF:=hn2.other HM.out hbw (by have:=vR.out;omega) (by have:=vR.out;omega) (by have:=vR.out;omega) hg5;have RB:=hk4.grown hg5 (λe=>by injection e with e;have:=vR.out;omega);have NE:=gJ hbw hg5 hbw.size (by have:=vR.out;omega);have CZ:=hide RD;have fD:=hide RF;have Ug:=hide RB;have jk:=hide NE;have Xg:=hide WO;obtain ⟨m5,FC⟩: ∃m,rows.length=m:=⟨_,rfl⟩;rw[FC]at NL⊢;have U6:=hide FC;clear hi5 RD RF hk4 RB hbw NE WO FC hn1 hn2 VQ;have Bf:=hide (Bf.out.grown hg5 (λz e=>by injection e with e;omega));have Lv:=hide (Lv.out.grown hg5 (λz e=>by injection e with e;omega));have JR:Hid (B<=W3.heap.size):=hide (Nat.le_trans (Nat.le_trans PR.out JP.out.size) hg5.size);have C9:=hide NL;clear NL;clear hg5;go_upto_region 3 with (fail);obtain ⟨xI,rq⟩: ∃W,W=W3.alloc (.cells #[.string ⟨#[114]⟩,.slice (some ⟨ga,0,none⟩) 3 3,.slice none 0 0,.slice A5 m5 c5] 29):=⟨_,rfl⟩;obtain ⟨g5,hg5⟩: ∃q,q=W3.heap.size:=⟨_,rfl⟩;have KR:Hid (dC xI g5 29 [.string ⟨#[114]⟩,.slice (some ⟨ga,0,none⟩) 3 3,.slice none 0 0,.slice A5 m5 c5]):=hide (by rw[rq,hg5];exact dC.made _ _ _);have VC:Hid (xI.heap.size=g5+1):=hide (by rw[rq,hg5];exact World.size_alloc _ _);have vS:Hid (Below W3.heap.size W3 xI):=hide (by rw[rq];exact ae);have Sb:Hid (W3.heap.size<=g5):=hide (by rw[hg5];exact Nat.le_refl _);rw[<-rq,<-hg5];have Yv:=hide hg5;clear rq hg5;have Bf:=hide (Bf.out.below vS.out);have Lv:=hide (Lv.out.below vS.out);have C9:=hide (C9.out.below vS.out);have EH:=hide vS.out;obtain ⟨gc,hgc⟩: ∃q,q=xI.heap.size:=⟨_,rfl⟩;have ZZ:B<=gc:=by rw[hgc];exact Nat.le_trans JR.out EH.out.size
 go_wp2_with fail;refine (lq _).mono ?_;rintro e w7 ⟨⟨rfl,hc1⟩,dD⟩;have KR:=hide (KR.out.below dD);have Bf:=hide (Bf.out.below dD);have Lv:=hide (Lv.out.below dD);have C9:=hide (C9.out.below dD);have Vo:=hide (aa EH.out dD);clear dD;rw[<-hgc]at hc1⊢;have Wn:=Jt hc1 ZZ;clear hc1 hgc;have Ez:=hide Wn;clear Wn;obtain ⟨gd,hgd⟩: ∃q,q=w7.heap.size:=⟨_,rfl⟩;have Z4:B<=gd:=by rw[hgd];exact Nat.le_trans JR.out Vo.out.size
 go_wp2_with fail;refine (lq _).mono ?_;rintro e w8 ⟨⟨rfl,hc1⟩,x8⟩;have KR:=hide (KR.out.below x8);have Bf:=hide (Bf.out.below x8);have Lv:=hide (Lv.out.below x8);have C9:=hide (C9.out.below x8);have Ez:=hide (Ez.out.below x8);have JQ:=hide (aa Vo.out x8);clear x8;rw[<-hgd]at hc1⊢;have Wq:=Jt hc1 Z4;clear hc1 hgd;have Rj:=hide Wq;clear Wq;have VQ:=Nat.le_trans JR.out JQ.out.size;have hn1:=CZ.out.below JQ.out;have hn2:=fD.out.below JQ.out;have hk4:=Ug.out.below JQ.out;have hbw:=aa jk.out JQ.out;go_wp2_with fail;refine (CO _ gg A n c l W3j hn1 _ 3 3 (Rj.out.off (by omega)) 4 (by omega) (by omega)).mono ?_;rintro e W4 ⟨⟨A6,c6,orows,W4j,rfl,hi5,WO,RD⟩,hg5⟩;have NL:=hi5.low VQ;have RF:=hn2.other HM.out hbw (by have:=vR.out;omega) (by have:=vR.out;omega) (by have:=vR.out;omega) hg5;have RB:=hk4.grown hg5 (λe=>by injection e with e;have:=vR.out;omega);have NE:=gJ hbw hg5 hbw.size (by have:=vR.out;omega);have CZ:=hide RD;have fD:=hide RF;have Ug:=hide RB;have jk:=hide NE;have Y4:=hide WO;obtain ⟨m6,FC⟩: ∃m,orows.length=m:=⟨_,rfl⟩;rw[FC]at NL⊢;have HM6:=hide FC;clear hi5 RD RF hk4 RB hbw NE WO FC hn1 hn2 VQ;have KR:=hide (KR.out.grown hg5 (λe=>by injection e with e;have h1:=Sb.out;have h2:=JR.out;omega));have Bf:=hide (Bf.out.grown hg5 (λz e=>by injection e with e;omega));have Lv:=hide (Lv.out.grown hg5 (λz e=>by injection e with e;omega));have C9:=hide (C9.out.grown hg5 (λz e=>by injection e with e;omega));have Ez:=hide (Ez.out.grown hg5 (λz e=>by injection e with e;omega));have Rj:=hide (Rj.out.grown hg5 (λz e=>by injection e with e;omega));have Vx:Hid (B<=W4.heap.size):=hide (Nat.le_trans (Nat.le_trans JR.out JQ.out.size) hg5.size);have Sn:=hide NL;clear NL;clear hg5;go_upto_region 4 with (fail);obtain ⟨Df,ru⟩: ∃W,W=W4.alloc (.cells #[.string ⟨#[111]⟩,.slice (some ⟨gc,0,none⟩) 3 3,.slice none 0 0,.slice A6 m6 c6] 29):=⟨_,rfl⟩;obtain ⟨g6,Bp⟩: ∃q,q=W4.heap.size:=⟨_,rfl⟩;have KO:Hid (dC Df g6 29 [.string ⟨#[111]⟩,.slice (some ⟨gc,0,none⟩) 3 3,.slice none 0 0,.slice A6 m6 c6]):=hide (by rw[ru,Bp];exact dC.made _ _ _);have Zx:Hid (Df.heap.size=g6+1):=hide (by rw[ru,Bp];exact World.size_alloc _ _);have sO:Hid (Below W4.heap.size W4 Df):=hide (by rw[ru];exact ae);have U3:Hid (W4.heap.size<=g6):=hide (by rw[Bp];exact Nat.le_refl _);have PQ:Hid (¬g5=g6):=hide (by have h:=KR.out.lt;omega);rw[<-ru,<-Bp];have Yw:=hide Bp;clear ru Bp;have KR:=hide (KR.out.below sO.out);have Bf:=hide (Bf.out.below sO.out);have C9:=hide (C9.out.below sO.out);have Ez:=hide (Ez.out.below sO.out);have Sn:=hide (Sn.out.below sO.out);have yA:=hide sO.out;have hn1:=CZ.out.below yA.out;have hn2:=fD.out.below yA.out;have hk4:=Ug.out.below yA.out;have hbw:=aa jk.out yA.out;have hG5:=Nat.le_trans JR.out Sb.out;have hG6:=Nat.le_trans Vx.out U3.out;have ZI:=Nat.le_trans Vx.out yA.out.size;have Z5:=Bf.out;have hcc:=Ez.out;have NL:=C9.out;have hr6:=Sn.out;have hkr:=KR.out;have hko:=KO.out;obtain ⟨Wo,hWo⟩: ∃W,W=Df:=⟨_,rfl⟩;rw[<-hWo]at hn1 hn2 hk4 hbw ZI Z5 hcc NL hr6 hkr hko⊢;clear hWo;have PK:=hide hkr;have Uh:=hide hko;have Bf:=hide Z5;have Ez:=hide hcc;have C9:=hide NL;have Sn:=hide hr6;have Ue:=hide hG5;have YB:=hide hG6;have HO:=hide (show EJ w Wo B g4 gg gh from ⟨vR.out.1,vR.out.2.1,vR.out.2.2,hgh,ZI⟩);have Xf:=hide (show S30 w Wo B g4 gg gh A n c l A2 n2 c2 l2 Wo from ⟨⟨_,hn1⟩,⟨_,hn2⟩,hk4,⟨Nat.le_refl _,λ_ _ _=>rfl⟩,hbw⟩);clear hn1 hn2 hk4 hbw hG5 hG6 ZI Z5 hcc NL hr6 hkr hko;clear CZ fD Ug jk;obtain ⟨j0,hj0⟩:=Xf.out.nh;go_upto_region 5 with (fail);go_wp2_with fail;refine (dL _ gh A2 n2 c2 l2 _ hj0 5 (by omega)).mono ?_;rintro e W5 ⟨⟨x5,i5,rfl,hx0,hx1,RD⟩,hg5⟩;have hs5:=Xf.out.nexth HO.out RD hg5;obtain ⟨k5,rfl⟩: ∃k:Nat,x5=k:=⟨x5.toNat,by omega⟩;have hk5:k5<5:=by have:=hx1 (by omega);omega
 have Un:=hide hs5;clear hx0 hx1 RD hg5 hs5 hj0;go_wp2;go_loopw [12,13] (λlv kv wr=> ∃(k:Nat) (cs:List Chk) (ks:List Nat),k<5/\kv=.int .i64 k/\cs.length+k<5/\(∀c∈cs,jr c)/\cs.map Chk.name=ks.map kD/\ks.Nodup/\(∀j∈ks,k<j/\j<5)/\OL 48 Wo.heap.size (λ_=>False) [9,89] wr lv cs/\S30 w Wo B g4 gg gh A n c l A2 n2 c2 l2 wr) (λ_ kv _=>(RowKit.intOf kv).toNat)
 case atStart=>exact ⟨k5,[],[],hk5,rfl,by simpa using hk5,by simp,rfl,by simp,by simp,OL.nil Un.out.up.1,Un.out⟩
 case round=>
  obtain ⟨k,cs,ks,hk,rfl,hcl,hgood,hnm,hnd,hks,hol,hs⟩:=hrel;have qF:=hide hgood;have PL:=hide hnm;have I9:=hide hnd;have Ui:=hide hks;have oG:=hide hol;have HS:=hide hs;clear hgood hnm hnd hks hol hs;by_cases hlt:0<k
  ·have k0:(0:Int)<(k:Int):=by omega
   have k1:(0:Int)<=(k:Int):=by omega
   have k2:(k:Int)<5:=by omega
   obtain ⟨wo,rfl⟩: ∃W,W=wr:=⟨_,rfl⟩;go_upto_region 8 with (fail);have Mj:=hide (show gh<Wo.heap.size/\gh<wo.heap.size by have h1:=HO.out;have h2:=HS.out.up.1;obtain ⟨_,_,_,_,_⟩:=h1;omega);go_cut [14] from 35 to 88 (λs14 wx=> ∃g,s14=.pointer (some ⟨g,0,none⟩)/\wo.heap.size<=g/\(∃x p:Int,0<=x/\x<6/\(p=0\/p=1)/\dC wx g 48 [.string (kD k),.string ⟨#[114]⟩,.int .i64 x,.slice none 0 0,.string ⟨#[]⟩,.slice none 0 0,.int .i64 0,.int .i64 0,.slice none 0 0,.int .i64 0,.int .i64 0,.int .i64 0,.int .i64 0,.int .i64 p])/\S30 w Wo B g4 gg gh A n c l A2 n2 c2 l2 wx/\aU Wo.heap.size wo wx)
   case first=>
    refine cZ (by kernel_rfl) ic (by kernel_rfl) (aU wo.heap.size) (λvs=>⟨#[.slice A n c,.slice A2 n2 c2,undef,undef,.pointer (some ⟨g4,0,none⟩),.slice none 0 0,.slice none 0 0,.slice none 0 0,.pointer (some ⟨gg,0,none⟩),.pointer (some ⟨gh,0,none⟩),.pointer (some ⟨g5,0,none⟩),.pointer (some ⟨g6,0,none⟩),u12,.int .i64 ↑k,(vs.getD 10 (.bool false)),undef,undef,.slice A n c,.agg #[.slice A n c,.int .i64 0],.pointer (some ⟨gg,0,none⟩),.slice A2 n2 c2,.agg #[.slice A2 n2 c2,.int .i64 0],.pointer (some ⟨gh,0,none⟩),.slice (some ⟨ga,0,none⟩) 3 3,.slice (some ⟨gb,0,none⟩) 3 3,.pointer (some ⟨gg,0,none⟩),.slice A5 m5 c5,.agg #[.string ⟨#[114]⟩,.slice (some ⟨ga,0,none⟩) 3 3,.slice none 0 0,.slice A5 m5 c5],.slice (some ⟨gc,0,none⟩) 3 3,.slice (some ⟨gd,0,none⟩) 3 3,.pointer (some ⟨gg,0,none⟩),.slice A6 m6 c6,.agg #[.string ⟨#[111]⟩,.slice (some ⟨gc,0,none⟩) 3 3,.slice none 0 0,.slice A6 m6 c6],.pointer (some ⟨gh,0,none⟩),.int .i64 ↑k5,.int .i64 ↑k,.bool true,u37,u38,(vs.getD 0 (.bool false)),(vs.getD 1 (.bool false)),(vs.getD 2 (.bool false)),(vs.getD 3 (.bool false)),(vs.getD 4 (.bool false)),(vs.getD 5 (.bool false)),(vs.getD 6 (.bool false)),(vs.getD 7 (.bool false)),(vs.getD 8 (.bool false)),(vs.getD 9 (.bool false)),u49,u50,u51,u52,u53,u54,u55,u56,u57,u58,u59,u60,u61,u62,u63,u64,u65,u66,u67,u68,u69,u70,u71,u72,u73,u74,u75,u76,u77,u78,u79,u80,u81,u82,u83,u84,u85,u86,u87,u88,undef,undef,undef,undef,undef,undef,undef,undef,undef,undef,undef,undef,undef,undef,undef,undef,undef,undef,undef,undef,undef,undef,undef,undef,undef,undef,undef,undef,undef,undef,undef,undef,undef,undef,undef,undef,undef,undef,undef,undef,undef,undef,undef,undef],[]⟩) 12 (by decide) (λL V=>S30 w Wo B g4 gg gh A n c l A2 n2 c2 l2 V/\aU Wo.heap.size wo V) FN SH (LV wo.heap.size k gh) (λ_ _=>True) NY (Ps wo.heap.size k gh) [_,_,_,_,_,_,_,_,_,_,_,.bool false] rfl rfl (λ_=>trivial) (⟨HS.out.below (Below.refl _ _).drew,aU.below (Below.refl _ _).drew⟩) ?_ ?_
    ·intro L i vs V hi hvl hL hd hG hF nY;obtain ⟨v0,vJ,rfl,hv0⟩:=af hvl;obtain ⟨v1,vs1,rfl,hv1⟩:=af hv0;obtain ⟨v2,vs2,rfl,hv2⟩:=af hv1;obtain ⟨v3,vs3,rfl,hv3⟩:=af hv2;obtain ⟨v4,AR,rfl,hv4⟩:=af hv3;obtain ⟨v5,AU,rfl,hv5⟩:=af hv4;obtain ⟨v6,AV,rfl,hv6⟩:=af hv5;obtain ⟨v7,AX,rfl,hv7⟩:=af hv6;obtain ⟨v8,AY,rfl,iY⟩:=af hv7;obtain ⟨v9,Gi,rfl,lG⟩:=af iY;obtain ⟨v10,rV,rfl,eH⟩:=af lG;obtain ⟨v11,rW,rfl,eO⟩:=af eH;obtain rfl:=fo eO;clear hvl hv0 hv1 hv2 hv3 hv4 hv5 hv6 hv7 iY lG eH eO;have hi:i<12:=hi;have HG:=hide hG;have HF:=hide hF;have HD:=hide hd;have qV:=hide hL;have Gn:=hide nY;clear hG hF hd hL nY;obtain rfl|rfl|rfl|rfl|rfl|rfl|rfl|rfl|rfl|rfl|rfl|rfl:i=0\/i=1\/i=2\/i=3\/i=4\/i=5\/i=6\/i=7\/i=8\/i=9\/i=10\/i=11:=by omega
     ·refine wpOp_step rfl (λK1 hK=>?_);have HK:=hide hK;clear hK;go_simp;exact HK.out _ _ ⟨_,rfl,⟨_,rfl,HG.out.2.1,dC.made _ _ _⟩,⟨HG.out.1.below ae,HG.out.2.trans (aU.below ae)⟩,.inl (aU.below ae)⟩
     ·refine wpOp_step rfl (λK1 hK=>?_);have HK:=hide hK;clear hK;go_simp;exact HK.out _ _ ⟨_,rfl,rfl,⟨HG.out.1,HG.out.2⟩,.inl (aU.below (Below.refl _ _))⟩
     ·obtain ⟨d,rfl,hd,hb⟩: ∃d,v0=.slice (some ⟨d,0,none⟩) 5 5/\wo.heap.size<=d/\dC V d 9 [.string ⟨#[97]⟩,.string ⟨#[98]⟩,.string ⟨#[99]⟩,.string ⟨#[100]⟩,.string ⟨#[101]⟩]:=(HF.out 0 (HD.out 0 (by simp[ic]))).2 (λ_ h=>by cases h);obtain rfl:v1=.int .i64 (k:Int):=(HF.out 1 (HD.out 1 (by simp[ic]))).2 (λ_ h=>by cases h);have HB0:=hide hb;clear hb;refine wpOp_step rfl (λK1 hK=>?_);have HK:=hide hK;clear hK;go_simp;exact HK.out _ _ ⟨_,rfl,⟨_,rfl,hd,HB0.out⟩,⟨HG.out.1,HG.out.2⟩,.inl (aU.below (Below.refl _ _))⟩
     ·obtain ⟨d,rfl,hd,hb⟩: ∃d,v2=.pointer (some ⟨d,k,none⟩)/\wo.heap.size<=d/\dC V d 9 [.string ⟨#[97]⟩,.string ⟨#[98]⟩,.string ⟨#[99]⟩,.string ⟨#[100]⟩,.string ⟨#[101]⟩]:=(HF.out 2 (HD.out 2 (by simp[ic]))).2 (λ_ h=>by cases h);have cz:=KQ (k:=k) hb (by omega);clear hb;refine wpOp_step rfl (λK1 hK=>?_);have HK:=hide hK;clear hK;go_simp;exact HK.out _ _ ⟨_,rfl,rfl,⟨HG.out.1,HG.out.2⟩,.inl (aU.below (Below.refl _ _))⟩
     ·refine wpOp_step rfl (λK1 hK=>?_);have HK:=hide hK;clear hK;go_simp;exact HK.out _ _ ⟨_,rfl,rfl,⟨HG.out.1,HG.out.2⟩,.inl (aU.below (Below.refl _ _))⟩
     ·obtain rfl:v4=.pointer (some ⟨gh,0,none⟩):=(HF.out 4 (HD.out 4 (by simp[ic]))).2 (λ_ h=>by cases h);obtain ⟨j1,hj1⟩:=HG.out.1.nh;have Si:=hide hj1;clear hj1;refine wpOp_step rfl (λK1 hK=>?_);have HK:=hide hK;clear hK;go_simp;go_at_call 32;refine (dL _ gh A2 n2 c2 l2 _ Si.out 6 (by omega)).mono ?_;rintro e w1 ⟨⟨x1,i1,rfl,hx0,hx1,hn1⟩,hg1⟩;have hx1:=hx1 (by omega);have Sm:=hide hn1;have vP:=hide hg1;clear hn1 hg1;go_wp2_with fail;exact HK.out _ _ ⟨_,rfl,⟨_,rfl,hx0,hx1⟩,⟨HG.out.1.nexth HO.out Sm.out vP.out,HG.out.2.trans (aU.grown vP.out Mj.out.1)⟩,.inl (aU.grown vP.out Mj.out.2)⟩
     ·refine wpOp_step rfl (λK1 hK=>?_);have HK:=hide hK;clear hK;go_simp;exact HK.out _ _ ⟨_,rfl,rfl,⟨HG.out.1,HG.out.2⟩,.inl (aU.below (Below.refl _ _))⟩
     ·obtain rfl:v6=.pointer (some ⟨gh,0,none⟩):=(HF.out 6 (HD.out 6 (by simp[ic]))).2 (λ_ h=>by cases h);obtain ⟨j1,hj1⟩:=HG.out.1.nh;have Si:=hide hj1;clear hj1;refine wpOp_step rfl (λK1 hK=>?_);have HK:=hide hK;clear hK;go_simp;go_at_call 32;refine (dL _ gh A2 n2 c2 l2 _ Si.out 4 (by omega)).mono ?_;rintro e w1 ⟨⟨x1,i1,rfl,hx0,hx1,hn1⟩,hg1⟩;have hx1:=hx1 (by omega);have Sm:=hide hn1;have vP:=hide hg1;clear hn1 hg1;go_wp2_with fail;exact HK.out _ _ ⟨_,rfl,⟨_,rfl,hx0,hx1⟩,⟨HG.out.1.nexth HO.out Sm.out vP.out,HG.out.2.trans (aU.grown vP.out Mj.out.1)⟩,.inl (aU.grown vP.out Mj.out.2)⟩
     ·obtain ⟨x,rfl,hx0,hx1⟩: ∃x:Int,v7=.int .i64 x/\0<=x/\x<4:=(HF.out 7 (HD.out 7 (by simp[ic]))).2 (λ_ h=>by cases h);have wq:IntKind.i64.wrap (x.tdiv 2)=x / 2:=by rw[Int.tdiv_eq_ediv_of_nonneg hx0];exact IntWalk.i64_in _ (by omega)
      have hx2:x / 2=0\/x / 2=1:=by omega
      refine wpOp_step rfl (λK1 hK=>?_);have HK:=hide hK;clear hK;go_simp;exact HK.out _ _ ⟨_,rfl,⟨_,rfl,hx2⟩,⟨HG.out.1,HG.out.2⟩,.inl (aU.below (Below.refl _ _))⟩
     ·obtain rfl:v3=.string (kD k):=(HF.out 3 (HD.out 3 (by simp[ic]))).2 (λ_ h=>by cases h);obtain ⟨x,rfl,hx0,hx1⟩: ∃x:Int,v5=.int .i64 x/\0<=x/\x<6:=(HF.out 5 (HD.out 5 (by simp[ic]))).2 (λ_ h=>by cases h);obtain ⟨p,rfl,hp⟩: ∃p:Int,v8=.int .i64 p/\(p=0\/p=1):=(HF.out 8 (HD.out 8 (by simp[ic]))).2 (λ_ h=>by cases h);refine wpOp_step rfl (λK1 hK=>?_);have HK:=hide hK;clear hK;go_simp;exact HK.out _ _ ⟨_,rfl,⟨_,_,rfl,hx0,hx1,hp⟩,⟨HG.out.1,HG.out.2⟩,.inl (aU.below (Below.refl _ _))⟩
     ·refine wpOp_step rfl (λK1 hK=>?_);have HK:=hide hK;clear hK;go_simp;exact HK.out _ _ ⟨_,rfl,⟨_,rfl,HG.out.2.1,dC.made _ _ _⟩,⟨HG.out.1.below ae,HG.out.2.trans (aU.below ae)⟩,.inl (aU.below ae)⟩
     ·obtain ⟨g,rfl,hg,hb⟩: ∃g,v10=.pointer (some ⟨g,0,none⟩)/\wo.heap.size<=g/\dC V g 48 [.string ⟨#[]⟩,.string ⟨#[]⟩,.int .i64 0,.slice none 0 0,.string ⟨#[]⟩,.slice none 0 0,.int .i64 0,.int .i64 0,.slice none 0 0,.int .i64 0,.int .i64 0,.int .i64 0,.int .i64 0,.int .i64 0]:=(HF.out 10 (HD.out 10 (by simp[ic]))).2 (λu h=>by simp only[SH,List.mem_cons,List.not_mem_nil,or_false]at h;subst h;exact qV.out);obtain ⟨x,p,rfl,hx0,hx1,hp⟩: ∃x p:Int,v9=.agg #[.string (kD k),.string ⟨#[114]⟩,.int .i64 x,.slice none 0 0,.string ⟨#[]⟩,.slice none 0 0,.int .i64 0,.int .i64 0,.slice none 0 0,.int .i64 0,.int .i64 0,.int .i64 0,.int .i64 0,.int .i64 p]/\0<=x/\x<6/\(p=0\/p=1):=(HF.out 9 (HD.out 9 (by simp[ic]))).2 (λ_ h=>by cases h);have HB0:=hide hb;obtain ⟨hlt,k0,k1,k2,k3,k4,k5_,k6,k7,k8,k9,k10,k11,k12,k13⟩:=hb.ats14;have f0:=hb.fz 0;have f1:=hb.fz 1;have f2:=hb.fz 2;have f3:=hb.fz 3;have f4:=hb.fz 4;have f5:=hb.fz 5;have f6:=hb.fz 6;have f7:=hb.fz 7;have f8:=hb.fz 8;have f9:=hb.fz 9;have f10:=hb.fz 10;have f11:=hb.fz 11;have f12:=hb.fz 12;have f13:=hb.fz 13;clear hb;refine wpOp_step rfl (λK1 hK=>?_);have HK:=hide hK;clear hK;go_simp;have HB1:=hide (HB0.out.set14 rfl (a0:=.string (kD k)) (a1:=.string ⟨#[114]⟩) (a2:=.int .i64 x) (a3:=.slice none 0 0) (a4:=.string ⟨#[]⟩) (a5:=.slice none 0 0) (a6:=.int .i64 0) (a7:=.int .i64 0) (a8:=.slice none 0 0) (a9:=.int .i64 0) (a10:=.int .i64 0) (a11:=.int .i64 0) (a12:=.int .i64 0) (a13:=.int .i64 p));have Xa:=hide (QO V g (.string (kD k)) (.string ⟨#[114]⟩) (.int .i64 x) (.slice none 0 0) (.string ⟨#[]⟩) (.slice none 0 0) (.int .i64 0) (.int .i64 0) (.slice none 0 0) (.int .i64 0) (.int .i64 0) (.int .i64 0) (.int .i64 0) (.int .i64 p));exact HK.out _ _ ⟨.bool false,rfl,⟨g,rfl,hg,x,p,hx0,hx1,hp,HB1.out⟩,⟨HG.out.1.own HO.out Xa.out (λq e=>by injection e with e;have:=Mj.out.2;have h1:=HG.out.2.1;have:=HS.out.up.1;omega),HG.out.2.own Xa.out hg⟩,.inr (λj hj _ hu q=>LW _ _ _ j _ _ _ _ (λe=>by subst e;exact (hu 11 (by simp[SH])).1 rfl) hj (λd hd hl ht=>Xa.out.block d hl (λe=>by injection e with e;subst e;exact dm.ne HB0.out.ty ht (by decide) rfl)) q)⟩
    ·intro L vs V hL hvl hG hF;obtain ⟨v0,vJ,rfl,hv0⟩:=af hvl;obtain ⟨v1,vs1,rfl,hv1⟩:=af hv0;obtain ⟨v2,vs2,rfl,hv2⟩:=af hv1;obtain ⟨v3,vs3,rfl,hv3⟩:=af hv2;obtain ⟨v4,AR,rfl,hv4⟩:=af hv3;obtain ⟨v5,AU,rfl,hv5⟩:=af hv4;obtain ⟨v6,AV,rfl,hv6⟩:=af hv5;obtain ⟨v7,AX,rfl,hv7⟩:=af hv6;obtain ⟨v8,AY,rfl,iY⟩:=af hv7;obtain ⟨v9,Gi,rfl,lG⟩:=af iY;obtain ⟨v10,rV,rfl,eH⟩:=af lG;obtain ⟨v11,rW,rfl,eO⟩:=af eH;obtain rfl:=fo eO;clear hvl hv0 hv1 hv2 hv3 hv4 hv5 hv6 hv7 iY lG eH eO;have HG:=hide hG;have HF:=hide hF;have HL:=hide hL;clear hG hF hL;obtain ⟨g,rfl,hg,hb⟩: ∃g,v10=.pointer (some ⟨g,0,none⟩)/\wo.heap.size<=g/\ ∃x p:Int,0<=x/\x<6/\(p=0\/p=1)/\dC V g 48 [.string (kD k),.string ⟨#[114]⟩,.int .i64 x,.slice none 0 0,.string ⟨#[]⟩,.slice none 0 0,.int .i64 0,.int .i64 0,.slice none 0 0,.int .i64 0,.int .i64 0,.int .i64 0,.int .i64 0,.int .i64 p]:=HF.out 11 (by show 11<12;omega) rfl;go_wp2;go_meet
     case rel=>exact ⟨g,rfl,hg,hb,HG.out.1,HG.out.2⟩
   case rest=>
    obtain ⟨g,rfl,hg,⟨x,p,hx0,hx1,hp,hb⟩,hs,hu⟩:=hcut;have HB:=hide hb;have Rp:=hide hs;have O9:=hide hu;have HG:=hide hg;clear hb hs hu;go_step;go_step;go_cut [] from 35 to 88 (λwx=>pK Wo.heap.size k wx g/\S30 w Wo B g4 gg gh A n c l A2 n2 c2 l2 wx/\aU Wo.heap.size wo wx)
    case first=>
     have LF:=hide (show Wo.heap.size<=wc.heap.size from Rp.out.up.1);have Xa:=HG;have Mk:=hide (show Wo.heap.size<=g from Nat.le_trans HS.out.up.1 hg);have I6:=hide (show gh<wc.heap.size from Nat.lt_of_lt_of_le Mj.out.1 Rp.out.up.1);have U1:=hide (show g<wc.heap.size from HB.out.lt);have Mi:=hide (show gh<g from Nat.lt_of_lt_of_le Mj.out.2 hg);obtain ⟨Zh,k0_,k1_,k2_,k3_,k4_,k5_,k6_,k7_,k8_,k9_,WQ,WR,WS,WT⟩:=HB.out.ats14;have f0:=HB.out.fz 0;have f1:=HB.out.fz 1;have f2:=HB.out.fz 2;have f3:=HB.out.fz 3;have f4:=HB.out.fz 4;have f5:=HB.out.fz 5;have f6:=HB.out.fz 6;have f7:=HB.out.fz 7;have f8:=HB.out.fz 8;have f9:=HB.out.fz 9;have f10:=HB.out.fz 10;have f11:=HB.out.fz 11;have f12:=HB.out.fz 12;have f13:=HB.out.fz 13;obtain rfl|rfl|rfl|rfl|rfl|rfl:x=0\/x=1\/x=2\/x=3\/x=4\/x=5:=by omega
     ·go_wp2_with fail;obtain ⟨V4,VT,hb4,b0,b1,b2,bd⟩:=Nh wc;rw[<-VT];clear VT Zh k0_ k1_ k2_ k3_ k4_ k5_ k6_ k7_ k8_ k9_ WQ WR WS WT f0 f1 f2 f3 f4 f5 f6 f7 f8 f9 f10 f11 f12 f13;have hs4:=Rp.out.below hb4;obtain ⟨j1,hj1⟩:=hs4.nh;refine (dL _ gh A2 n2 c2 l2 _ hj1 3 (by omega)).mono ?_;rintro e w1 ⟨⟨x1,i1,rfl,hx0,hx1,hn1⟩,hg1⟩;have Un:=hide (hs4.nexth HO.out hn1 hg1);have Y7:=hide ((O9.out.trans (aU.below hb4)).trans (aU.grown hg1 Mj.out.1));have hbk:=(HB.out.below hb4).grown hg1 (λe=>by injection e with e;have:=Mi.out;omega);obtain ⟨q,rfl⟩: ∃q:Nat,x1=q:=⟨x1.toNat,by omega⟩;have hq:q<3:=by have:=hx1 (by omega);omega
      obtain ⟨e,s,hc,he,hbe,hs⟩:=Ou (B:=wc.heap.size) (bd.grown hg1 (λe=>by injection e with e;have:=I6.out;omega)) ⟨Nat.le_refl _,b0.grown hg1 (λe=>by injection e with e;have:=I6.out;omega)⟩ ⟨by omega,b1.grown hg1 (λe=>by injection e with e;have:=I6.out;omega)⟩ ⟨by omega,b2.grown hg1 (λe=>by injection e with e;have:=I6.out;omega)⟩ hq;have hq1:(q:Int)<3:=by omega
      have hq2:(0:Int)<=(q:Int):=by omega
      have x3:=hbk.at 3 rfl;have xl:=hbk.lt;have xf:=hbk.fz 3;have Ey:=hide hbk;have xS:=hide hbe;have Yr:=hide (show Wo.heap.size<=e from Nat.le_trans LF.out he);have gU:=hide (show e≠g by have:=U1.out;omega);clear hs4 hj1 hx0 hx1 hn1 hg1 hbk hbe he b0 b1 b2 bd hb4 hq;go_wp2_with fail;go_meet
      case rel=>exact ⟨pK.mk (kw (kD k) nR 0 [s] ⟨#[]⟩ [] 0 [] p) ((wz hp).1 s hs 0 (by omega)) rfl gQ.2.2.2.2.2.2.2.2.2.1 (Ey.out.set 3 _) ⟨zY (xs:=[s]) (xS.out.far gU.out 3 _) Yr.out rfl (by decide) (by simpa using hs.str),mP,mP⟩,Un.out.set HO.out Mk.out 3 _,Y7.out.set HG.out 3 _⟩
     ·go_wp2_with fail;obtain ⟨V4,VT,hb4,b0,b1,b2,bd⟩:=Nh wc;rw[<-VT];clear VT Zh k0_ k1_ k2_ k3_ k4_ k5_ k6_ k7_ k8_ k9_ WQ WR WS WT f0 f1 f2 f3 f4 f5 f6 f7 f8 f9 f10 f11 f12 f13;have hs4:=Rp.out.below hb4;obtain ⟨j1,hj1⟩:=hs4.nh;refine (dL _ gh A2 n2 c2 l2 _ hj1 3 (by omega)).mono ?_;rintro e w1 ⟨⟨x1,i1,rfl,hx0,hx1,hn1⟩,hg1⟩;have Un:=hide (hs4.nexth HO.out hn1 hg1);have Y7:=hide ((O9.out.trans (aU.below hb4)).trans (aU.grown hg1 Mj.out.1));have hbk:=(HB.out.below hb4).grown hg1 (λe=>by injection e with e;have:=Mi.out;omega);obtain ⟨q,rfl⟩: ∃q:Nat,x1=q:=⟨x1.toNat,by omega⟩;have hq:q<3:=by have:=hx1 (by omega);omega
      obtain ⟨e,s,hc,he,hbe,hs⟩:=Ou (B:=wc.heap.size) (bd.grown hg1 (λe=>by injection e with e;have:=I6.out;omega)) ⟨Nat.le_refl _,b0.grown hg1 (λe=>by injection e with e;have:=I6.out;omega)⟩ ⟨by omega,b1.grown hg1 (λe=>by injection e with e;have:=I6.out;omega)⟩ ⟨by omega,b2.grown hg1 (λe=>by injection e with e;have:=I6.out;omega)⟩ hq;have hq1:(q:Int)<3:=by omega
      have hq2:(0:Int)<=(q:Int):=by omega
      have x3:=hbk.at 3 rfl;have xl:=hbk.lt;have xf:=hbk.fz 3;have Ey:=hide hbk;have xS:=hide hbe;have Yr:=hide (show Wo.heap.size<=e from Nat.le_trans LF.out he);have gU:=hide (show e≠g by have:=U1.out;omega);clear hs4 hj1 hx0 hx1 hn1 hg1 hbk hbe he b0 b1 b2 bd hb4 hq;go_wp2_with fail;go_meet
      case rel=>exact ⟨pK.mk (kw (kD k) nR 1 [s] ⟨#[]⟩ [] 0 [] p) ((wz hp).1 s hs 1 (by omega)) rfl gQ.2.2.2.2.2.2.2.2.2.1 (Ey.out.set 3 _) ⟨zY (xs:=[s]) (xS.out.far gU.out 3 _) Yr.out rfl (by decide) (by simpa using hs.str),mP,mP⟩,Un.out.set HO.out Mk.out 3 _,Y7.out.set HG.out 3 _⟩
     ·go_wp2_with fail;go_meet
      case rel=>exact ⟨pK.mk (kw (kD k) nR 2 [nV] ⟨#[]⟩ [] 3 [] p) (wz hp).2.1 rfl gQ.2.2.2.2.2.2.2.2.2.1 (((HB.out.set 3 _).set 7 _).below ae) ⟨zF (by unfold Str;decide) (by simp) LF.out,mP,mP⟩,((Rp.out.set HO.out Mk.out 3 _).set HO.out Mk.out 7 _).below ae,((O9.out.set HG.out 3 _).set HG.out 7 _).trans (aU.below ae)⟩
     ·go_wp2_with fail;go_meet
      case rel=>exact ⟨pK.mk (kw (kD k) nR 3 [qL] nO [qL] 0 [] p) (wz hp).2.2.1 rfl gQ.2.2.2.2.2.2.2.2.2.1 ((((HB.out.set 3 _).set 4 _).set 5 _).below below_alloc2) ⟨rQ (zF (by unfold Str;decide) (by simp) LF.out) (by simp;have:=LF.out;omega) ae,zF (by unfold Str;decide) (by simp) (by have:=LF.out;omega),mP⟩,(((Rp.out.set HO.out Mk.out 3 _).set HO.out Mk.out 4 _).set HO.out Mk.out 5 _).below below_alloc2,(((O9.out.set HG.out 3 _).set HG.out 4 _).set HG.out 5 _).trans (aU.below below_alloc2)⟩
     ·go_wp2_with fail;go_meet
      case rel=>exact ⟨pK.mk (kw (kD k) nR 4 [] ⟨#[]⟩ [] 0 Kz p) (wz hp).2.2.2 rfl gQ.2.2.2.2.2.2.2.2.2.1 (((HB.out.set 2 _).set 8 _).below ae) ⟨mP,mP,Jw (by simp) LF.out⟩,((Rp.out.set HO.out Mk.out 2 _).set HO.out Mk.out 8 _).below ae,((O9.out.set HG.out 2 _).set HG.out 8 _).trans (aU.below ae)⟩
     ·go_wp2_with fail;go_meet
      case rel=>exact ⟨pK.mk (kw (kD k) nR 4 [] ⟨#[]⟩ [] 0 Kz p) (wz hp).2.2.2 rfl gQ.2.2.2.2.2.2.2.2.2.1 (((HB.out.set 2 _).set 8 _).below ae) ⟨mP,mP,Jw (by simp) LF.out⟩,((Rp.out.set HO.out Mk.out 2 _).set HO.out Mk.out 8 _).below ae,((O9.out.set HG.out 2 _).set HG.out 8 _).trans (aU.below ae)⟩
    case rest=>
     obtain ⟨hck,hs1,hu1⟩:=hcut;obtain ⟨wd,rfl⟩: ∃W,W=wc:=⟨_,rfl⟩;have WZ:=hide hck;have Um:=hide hs1;have HU1:=hide hu1;clear hck hs1 hu1;go_step;go_step;go_cut [] from 35 to 88 (λwx=>pK Wo.heap.size k wx g/\S30 w Wo B g4 gg gh A n c l A2 n2 c2 l2 wx/\aU Wo.heap.size wo wx)
     case first=>
      obtain ⟨j2,hj2⟩:=Um.out.nh;go_wp2_with fail;refine (dL _ gh A2 n2 c2 l2 _ hj2 8 (by omega)).mono ?_;rintro e w2 ⟨⟨x2,i2,rfl,hx0,hx1,hn2⟩,hg2⟩;have HS2:=hide (Um.out.nexth HO.out hn2 hg2);have HU2:=hide (HU1.out.trans (aU.grown hg2 Mj.out.1));have Sa:=hide (WZ.out.nexth Um.out.up.1 hj2.blk.ty ⟨by decide,by decide⟩ (by have:=Mj.out.2;have:=HG.out;omega) hg2);clear hn2 hg2 hj2;obtain ⟨cc,A',n',c',aX,n'',c'',A3,n3,c3,h1,h2,Ns,h3,h4⟩:=Sa.out;have y1:=h3.at 1 rfl;have yl:=h3.lt;have yf:=h3.fz 1;clear h1 h2 Ns h3 h4;by_cases hx:x2=0
      ·subst hx;go_wp2_with fail;all_goals (try (exfalso;go_light;simp_all;done));go_meet
       case rel=>exact ⟨Sa.out.table HS2.out.up.1 ⟨#[111]⟩ gQ.2.2.2.2.2.2.2.2.2.2,HS2.out.set HO.out (Nat.le_trans HS.out.up.1 HG.out) 1 _,HU2.out.set HG.out 1 _⟩
      ·have q1:(x2==0)=false:=by simpa using hx
       go_wp2_with fail;all_goals (try (exfalso;go_light;simp_all;done));go_meet
       case rel=>exact ⟨Sa.out,HS2.out,HU2.out⟩
     case rest=>
      obtain ⟨hck,hs1,hu1⟩:=hcut;obtain ⟨we,rfl⟩: ∃W,W=wc:=⟨_,rfl⟩;obtain ⟨cc,A',n',c',aX,n'',c'',A3,n3,c3,h1,h2,Ns,h3,h4⟩:=hck;have JJ:=hide (oG.out.up30 hu1);have HS2:=hide hs1;have PO:=hide (MU h4 h1 h2 Ns);have HH1:=hide h1;have HH2:=hide h2;have Ez:=hide (congrArg (λq=>cs.length+q) (Nat.succ_pred_eq_of_pos hlt));simp only[aB]at h3;obtain ⟨Zh,y0,y1,y2,y3,y4,y5,y6,y7,y8,y9,y10,y11,y12,y13⟩:=h3.ats14;have zi:cs.length+1<=maxLen:=by simp only[maxLen];omega
      have zk:(cs.length+1)*184<=140737488355328:=by omega
      have wk1:IntKind.i64.wrap ((k:Int)-1)=((k-1:Nat):Int):=by rw[show (k:Int)-1=((k-1:Nat):Int) by omega];exact IntWalk.i64_in _ (by omega)
      clear h1 h2 Ns h3 h4 hs1 hu1;go_wp2_with (at_builtin;refine bF _ rfl _ _ _ rfl GZ (by decide) we _ rfl JJ.out rfl rfl cc PO.out zi zk ?_;intro v9 w9 oQ fK qR kJ);have qG:=hide oQ;have HS9:=hide (HS2.out.own HO.out qR (λq e=>(JJ.out.ty e).1));clear oQ fK qR kJ;go_wp2;all_goals (try (exfalso;go_light;simp_all;done));go_roundw
      case rel=>exact ⟨k-1,cs++[cc],ks++[k],by omega,rfl,by simp;omega,λc hc=>by rcases List.mem_append.1 hc with hc|hc;exact qF.out c hc;rw[List.mem_singleton.1 hc];exact HH1.out,by simp[PL.out,HH2.out],List.nodup_append.2 ⟨I9.out,by simp,λa ha b hb=>by rw[List.mem_singleton.1 hb];have:=Ui.out a ha;omega⟩,λj hj=>by rcases List.mem_append.1 hj with hj|hj;exact ⟨by have:=Ui.out j hj;omega,(Ui.out j hj).2⟩;rw[List.mem_singleton.1 hj];exact ⟨by omega,hk⟩,qG.out,HS9.out⟩
      case measure=>simp[RowKit.intOf];omega
  ·obtain rfl:k=0:=by omega
   obtain ⟨Ac,cq,rfl,hic⟩:=oG.out.inn;obtain ⟨mc,hmc⟩: ∃m,cs.length=m:=⟨_,rfl⟩;have hol:=oG.out;rw[hmc]at hic hol⊢;have TH:mc<=4:=by omega
   have Rn:=hide hmc;have Va:=hide hol;clear hic hol hmc oG;obtain ⟨wl,rfl⟩: ∃W,W=wr:=⟨_,rfl⟩;obtain ⟨j1,hj1⟩:=HS.out.ng;go_upto_region 23 with (fail);go_wp2_with fail;refine (dL _ gg A n c l _ hj1 4 (by omega)).mono ?_;rintro e W6 ⟨⟨x6,i6,rfl,hx0,hx1,RF⟩,Bp⟩;obtain ⟨k6,rfl⟩: ∃k:Nat,x6=k:=⟨x6.toNat,by omega⟩;have RB:k6<4:=by have:=hx1 (by omega);omega
   have Ro:=hide (HS.out.nextg HO.out HM.out RF Bp);have YQ:=hide (Va.out.up30 (aU.grown Bp (by obtain ⟨_,_,_,_,_⟩:=HO.out;omega)));clear hx0 hx1 RF Bp hj1 HS Va;go_wp2;go_loopw [15,16] (λwv kv wr=> ∃(k:Nat) (ws:List Wvr),k<4/\kv=.int .i64 k/\ws.length+k<4/\OL 33 Wo.heap.size (λz=>B<=z) [] wr wv ws/\OL 48 Wo.heap.size (λ_=>False) [9,89] wr (.slice Ac mc cq) cs/\S30 w Wo B g4 gg gh A n c l A2 n2 c2 l2 wr) (λ_ kv _=>(RowKit.intOf kv).toNat)
   case atStart=>exact ⟨k6,[],RB,rfl,by simpa using RB,OL.nil Ro.out.up.1,YQ.out,Ro.out⟩
   case round=>
    obtain ⟨k,ws,hk,rfl,hwl,how,hol,hs⟩:=hrel;have HOW:=hide how;have oG:=hide hol;have HS:=hide hs;clear how hol hs;obtain ⟨Zi,r0,r1,r2,r3⟩:=(PK.out.up30 Ue.out HS.out.up).ats4;by_cases hlt:0<k
    ·have k0:(0:Int)<(k:Int):=by omega
     by_cases FC:0<m5
     ·have k1:(0:Int)<(m5:Int):=by omega
      by_cases hmc:0<mc
      ·have k2:(0:Int)<(mc:Int):=by omega
       obtain ⟨wl,rfl⟩: ∃W,W=wr:=⟨_,rfl⟩;obtain ⟨bc,oc,rfl⟩:=(eu oG.out Rn.out).at0 hmc;obtain ⟨b5,o5,rfl⟩:=C9.out.inn.at0 FC;have hm5b:m5<=4096:=by rw[<-U6.out];obtain ⟨hb,ht,_⟩:=aW (Xg.out.tab (by simp[gV])).2;exact (dI hb ht).1
       go_upto_region 26 with (fail);have Mi:=hide (show gg<Wo.heap.size/\gg<B by obtain ⟨_,_,_,_,_⟩:=HO.out;omega);have HWL:Hid (ws.length+1<=maxLen/\(ws.length+1)*40<=140737488355328):=hide (by simp only[maxLen];omega);refine cZ (by kernel_rfl) bR (by kernel_rfl) (aU B) (λvs=>⟨#[.slice A n c,.slice A2 n2 c2,undef,undef,.pointer (some ⟨g4,0,none⟩),.slice none 0 0,.slice none 0 0,.slice none 0 0,.pointer (some ⟨gg,0,none⟩),.pointer (some ⟨gh,0,none⟩),.pointer (some ⟨g5,0,none⟩),.pointer (some ⟨g6,0,none⟩),.slice (some ⟨bc,oc,none⟩) mc cq,.int .i64 0,u14,(vs.getD 22 (.bool false)),.int .i64 ↑k,.slice A n c,.agg #[.slice A n c,.int .i64 0],.pointer (some ⟨gg,0,none⟩),.slice A2 n2 c2,.agg #[.slice A2 n2 c2,.int .i64 0],.pointer (some ⟨gh,0,none⟩),.slice (some ⟨ga,0,none⟩) 3 3,.slice (some ⟨gb,0,none⟩) 3 3,.pointer (some ⟨gg,0,none⟩),.slice (some ⟨b5,o5,none⟩) m5 c5,.agg #[.string ⟨#[114]⟩,.slice (some ⟨ga,0,none⟩) 3 3,.slice none 0 0,.slice (some ⟨b5,o5,none⟩) m5 c5],.slice (some ⟨gc,0,none⟩) 3 3,.slice (some ⟨gd,0,none⟩) 3 3,.pointer (some ⟨gg,0,none⟩),.slice A6 m6 c6,.agg #[.string ⟨#[111]⟩,.slice (some ⟨gc,0,none⟩) 3 3,.slice none 0 0,.slice A6 m6 c6],.pointer (some ⟨gh,0,none⟩),.int .i64 ↑k5,.int .i64 0,.bool false,u37,u38,u39,u40,u41,u42,u43,u44,u45,u46,u47,u48,u49,u50,u51,u52,u53,u54,u55,u56,u57,u58,u59,u60,u61,u62,u63,u64,u65,u66,u67,u68,u69,u70,u71,u72,u73,u74,u75,u76,u77,u78,u79,u80,u81,u82,u83,u84,u85,u86,u87,u88,.pointer (some ⟨gg,0,none⟩),.int .i64 ↑k6,.int .i64 ↑k,.bool true,.bool true,.pointer (some ⟨g5,3,none⟩),.slice (some ⟨b5,o5,none⟩) m5 c5,.int .i64 ↑m5,.bool true,.bool true,.bool true,.slice (some ⟨bc,oc,none⟩) mc cq,.int .i64 ↑mc,.bool true,.bool true,u104,u105,(vs.getD 0 (.bool false)),(vs.getD 1 (.bool false)),(vs.getD 2 (.bool false)),(vs.getD 3 (.bool false)),(vs.getD 4 (.bool false)),(vs.getD 5 (.bool false)),(vs.getD 6 (.bool false)),(vs.getD 7 (.bool false)),(vs.getD 8 (.bool false)),(vs.getD 9 (.bool false)),(vs.getD 10 (.bool false)),(vs.getD 11 (.bool false)),(vs.getD 12 (.bool false)),(vs.getD 13 (.bool false)),(vs.getD 14 (.bool false)),(vs.getD 15 (.bool false)),(vs.getD 16 (.bool false)),(vs.getD 17 (.bool false)),(vs.getD 18 (.bool false)),(vs.getD 19 (.bool false)),(vs.getD 20 (.bool false)),(vs.getD 21 (.bool false)),undef,undef,undef,undef,undef],[]⟩) 23 (by decide) (λL V=>S30 w Wo B g4 gg gh A n c l A2 n2 c2 l2 V/\OL 48 Wo.heap.size (λ_=>False) [9,89] V (.slice (some ⟨bc,oc,none⟩) mc cq) cs/\(L 21=false->OL 33 Wo.heap.size (λz=>B<=z) [] V u15 ws)) wH MG (Eu B Wo.heap.size g5 gg b5 o5 m5 c5 bc oc mc cq u15 ws) (λj v=>j=22->v=u15) KA (LU B Wo.heap.size g5 gg b5 o5 m5 c5 bc oc mc cq u15 ws) [_,_,_,_,_,_,_,_,_,_,_,_,_,_,_,_,_,_,_,_,_,_,_] rfl rfl (λj h=>by subst h;rfl) (⟨HS.out.below (Below.refl _ _).drew,oG.out.below (Below.refl _ _).drew,λ_=>HOW.out.below (Below.refl _ _).drew⟩) ?_ ?_
       ·intro L i vs V hi hvl hL hd hG hF nY;obtain ⟨v0,vJ,rfl,hv0⟩:=af hvl;obtain ⟨v1,vs1,rfl,hv1⟩:=af hv0;obtain ⟨v2,vs2,rfl,hv2⟩:=af hv1;obtain ⟨v3,vs3,rfl,hv3⟩:=af hv2;obtain ⟨v4,AR,rfl,hv4⟩:=af hv3;obtain ⟨v5,AU,rfl,hv5⟩:=af hv4;obtain ⟨v6,AV,rfl,hv6⟩:=af hv5;obtain ⟨v7,AX,rfl,hv7⟩:=af hv6;obtain ⟨v8,AY,rfl,iY⟩:=af hv7;obtain ⟨v9,Gi,rfl,lG⟩:=af iY;obtain ⟨v10,rV,rfl,eH⟩:=af lG;obtain ⟨v11,rW,rfl,eO⟩:=af eH;obtain ⟨v12,uy,rfl,fH⟩:=af eO;obtain ⟨v13,uz,rfl,fI⟩:=af fH;obtain ⟨v14,wQ,rfl,gL⟩:=af fI;obtain ⟨v15,wR,rfl,gM⟩:=af gL;obtain ⟨v16,AJ,rfl,iR⟩:=af gM;obtain ⟨v17,AL,rfl,iT⟩:=af iR;obtain ⟨v18,AO,rfl,iU⟩:=af iT;obtain ⟨v19,AP,rfl,iW⟩:=af iU;obtain ⟨v20,AQ,rfl,iX⟩:=af iW;obtain ⟨v21,Em,rfl,kz⟩:=af iX;obtain ⟨v22,En,rfl,kC⟩:=af kz;obtain rfl:=fo kC;clear hvl hv0 hv1 hv2 hv3 hv4 hv5 hv6 hv7 iY lG eH eO fH fI gL gM iR iT iU iW iX kz kC;have hi:i<23:=hi;have HG:=hide hG;have HF:=hide hF;have HD:=hide hd;have qV:=hide hL;have Gn:=hide nY;clear hG hF hd hL nY;obtain rfl|rfl|rfl|rfl|rfl|rfl|rfl|rfl|rfl|rfl|rfl|rfl|rfl|rfl|rfl|rfl|rfl|rfl|rfl|rfl|rfl|rfl|rfl:i=0\/i=1\/i=2\/i=3\/i=4\/i=5\/i=6\/i=7\/i=8\/i=9\/i=10\/i=11\/i=12\/i=13\/i=14\/i=15\/i=16\/i=17\/i=18\/i=19\/i=20\/i=21\/i=22:=by omega
        ·obtain rfl:v22=u15:=Gn.out 22 (Bool.eq_false_iff.2 λh=>by have h1:L 21=true:=(HF.out 22 h).1;have h2:L 0=true:=(HF.out 21 h1).1;rw[qV.out]at h2;cases h2) rfl;refine wpOp_step rfl (λK1 hK=>?_);have HK:=hide hK;clear hK;go_simp;exact HK.out _ _ ⟨_,rfl,rfl,⟨HG.out.1,HG.out.2.1,HG.out.2.2⟩,.inl (aU.below (Below.refl _ _))⟩
        ·refine wpOp_step rfl (λK1 hK=>?_);have HK:=hide hK;clear hK;go_simp;exact HK.out _ _ ⟨_,rfl,rfl,⟨HG.out.1,HG.out.2.1,HG.out.2.2⟩,.inl (aU.below (Below.refl _ _))⟩
        ·refine wpOp_step rfl (λK1 hK=>?_);have HK:=hide hK;clear hK;go_simp;exact HK.out _ _ ⟨_,rfl,rfl,⟨HG.out.1,HG.out.2.1,HG.out.2.2⟩,.inl (aU.below (Below.refl _ _))⟩
        ·refine wpOp_step rfl (λK1 hK=>?_);have HK:=hide hK;clear hK;go_simp;exact HK.out _ _ ⟨_,rfl,rfl,⟨HG.out.1,HG.out.2.1,HG.out.2.2⟩,.inl (aU.below (Below.refl _ _))⟩
        ·obtain rfl:v3=.slice (some ⟨bc,oc,none⟩) mc cq:=(HF.out 3 (HD.out 3 (by simp[bR]))).2 (λ_ h=>by cases h);refine wpOp_step rfl (λK1 hK=>?_);have HK:=hide hK;clear hK;go_simp;exact HK.out _ _ ⟨_,rfl,rfl,⟨HG.out.1,HG.out.2.1,HG.out.2.2⟩,.inl (aU.below (Below.refl _ _))⟩
        ·obtain rfl:v2=.pointer (some ⟨gg,0,none⟩):=(HF.out 2 (HD.out 2 (by simp[bR]))).2 (λ_ h=>by cases h);obtain rfl:v4=.int .i64 (mc:Int):=(HF.out 4 (HD.out 4 (by simp[bR]))).2 (λ_ h=>by cases h);obtain ⟨j1,hj1⟩:=HG.out.1.ng;have Si:=hide hj1;clear hj1;refine wpOp_step rfl (λK1 hK=>?_);have HK:=hide hK;clear hK;go_simp;go_at_call 32;refine (dL _ gg A n c l _ Si.out mc (by omega)).mono ?_;rintro e w1 ⟨⟨x1,i1,rfl,hx0,hx1,hn1⟩,hg1⟩;have hx1:=hx1 (by omega);obtain ⟨q1,rfl⟩: ∃q:Nat,x1=q:=⟨x1.toNat,by omega⟩;have Sm:=hide hn1;have vP:=hide hg1;clear hn1 hg1;go_wp2_with fail;exact HK.out _ _ ⟨_,rfl,⟨_,rfl,by omega⟩,⟨HG.out.1.nextg HO.out HM.out Sm.out vP.out,HG.out.2.1.up30 (aU.grown vP.out Mi.out.1),λh=>(HG.out.2.2 h).upO vP.out (λz e=>by injection e with e;have:=Mi.out.2;subst e;exact ⟨by omega,by have:=HG.out.1.up.1;have:=Mi.out.1;omega⟩)⟩,.inl (aU.grown vP.out Mi.out.2)⟩
        ·obtain rfl:v1=.slice (some ⟨bc,oc,none⟩) mc cq:=(HF.out 1 (HD.out 1 (by simp[bR]))).2 (λ_ h=>by cases h);obtain ⟨q,rfl,hq⟩: ∃q:Nat,v5=.int .i64 (q:Int)/\q<mc:=(HF.out 5 (HD.out 5 (by simp[bR]))).2 (λ_ h=>by cases h);have hq1:(q:Int)<(mc:Int):=by omega
         have hq2:(0:Int)<=(q:Int):=by omega
         refine wpOp_step rfl (λK1 hK=>?_);have HK:=hide hK;clear hK;go_simp;exact HK.out _ _ ⟨_,rfl,⟨q,rfl,hq⟩,⟨HG.out.1,HG.out.2.1,HG.out.2.2⟩,.inl (aU.below (Below.refl _ _))⟩
        ·obtain ⟨q,rfl,hq⟩: ∃q:Nat,v6=.pointer (some ⟨bc,oc+q*14,none⟩)/\q<mc:=(HF.out 6 (HD.out 6 (by simp[bR]))).2 (λ_ h=>by cases h);refine wpOp_step rfl (λK1 hK=>?_);have HK:=hide hK;clear hK;go_simp;exact HK.out _ _ ⟨_,rfl,⟨q,rfl,hq⟩,⟨HG.out.1,HG.out.2.1,HG.out.2.2⟩,.inl (aU.below (Below.refl _ _))⟩
        ·obtain ⟨q,rfl,hq⟩: ∃q:Nat,v7=.pointer (some ⟨bc,oc+q*14,none⟩)/\q<mc:=(HF.out 7 (HD.out 7 (by simp[bR]))).2 (λ_ h=>by cases h);obtain ⟨b9,o9,x9,e9,_,_,_,_,_,_,_,_,_,_,_,hcs,_,_,_,hok⟩:=(eu HG.out.2.1 Rn.out).chk hq;injection e9 with e9;injection e9 with e9 e9b;subst e9 e9b;have c9:=hcs.1;clear hcs;refine wpOp_step rfl (λK1 hK=>?_);have HK:=hide hK;clear hK;go_simp;exact HK.out _ _ ⟨_,rfl,⟨_,rfl,hok.1⟩,⟨HG.out.1,HG.out.2.1,HG.out.2.2⟩,.inl (aU.below (Below.refl _ _))⟩
        ·refine wpOp_step rfl (λK1 hK=>?_);have HK:=hide hK;clear hK;go_simp;exact HK.out _ _ ⟨_,rfl,rfl,⟨HG.out.1,HG.out.2.1,HG.out.2.2⟩,.inl (aU.below (Below.refl _ _))⟩
        ·obtain rfl:v9=.pointer (some ⟨g5,3,none⟩):=(HF.out 9 (HD.out 9 (by simp[bR]))).2 (λ_ h=>by cases h);have y3:=(PK.out.up30 Ue.out HG.out.1.up).at 3 rfl;refine wpOp_step rfl (λK1 hK=>?_);have HK:=hide hK;clear hK;go_simp;exact HK.out _ _ ⟨_,rfl,rfl,⟨HG.out.1,HG.out.2.1,HG.out.2.2⟩,.inl (aU.below (Below.refl _ _))⟩
        ·refine wpOp_step rfl (λK1 hK=>?_);have HK:=hide hK;clear hK;go_simp;exact HK.out _ _ ⟨_,rfl,rfl,⟨HG.out.1,HG.out.2.1,HG.out.2.2⟩,.inl (aU.below (Below.refl _ _))⟩
        ·refine wpOp_step rfl (λK1 hK=>?_);have HK:=hide hK;clear hK;go_simp;exact HK.out _ _ ⟨_,rfl,rfl,⟨HG.out.1,HG.out.2.1,HG.out.2.2⟩,.inl (aU.below (Below.refl _ _))⟩
        ·obtain rfl:v12=.pointer (some ⟨g5,3,none⟩):=(HF.out 12 (HD.out 12 (by simp[bR]))).2 (λ_ h=>by cases h);have y3:=(PK.out.up30 Ue.out HG.out.1.up).at 3 rfl;refine wpOp_step rfl (λK1 hK=>?_);have HK:=hide hK;clear hK;go_simp;exact HK.out _ _ ⟨_,rfl,rfl,⟨HG.out.1,HG.out.2.1,HG.out.2.2⟩,.inl (aU.below (Below.refl _ _))⟩
        ·obtain rfl:v13=.slice (some ⟨b5,o5,none⟩) m5 c5:=(HF.out 13 (HD.out 13 (by simp[bR]))).2 (λ_ h=>by cases h);refine wpOp_step rfl (λK1 hK=>?_);have HK:=hide hK;clear hK;go_simp;exact HK.out _ _ ⟨_,rfl,rfl,⟨HG.out.1,HG.out.2.1,HG.out.2.2⟩,.inl (aU.below (Below.refl _ _))⟩
        ·obtain rfl:v11=.pointer (some ⟨gg,0,none⟩):=(HF.out 11 (HD.out 11 (by simp[bR]))).2 (λ_ h=>by cases h);obtain rfl:v14=.int .i64 (m5:Int):=(HF.out 14 (HD.out 14 (by simp[bR]))).2 (λ_ h=>by cases h);obtain ⟨j1,hj1⟩:=HG.out.1.ng;have Si:=hide hj1;clear hj1;refine wpOp_step rfl (λK1 hK=>?_);have HK:=hide hK;clear hK;go_simp;go_at_call 32;refine (dL _ gg A n c l _ Si.out m5 (by omega)).mono ?_;rintro e w1 ⟨⟨x1,i1,rfl,hx0,hx1,hn1⟩,hg1⟩;have hx1:=hx1 (by omega);obtain ⟨q1,rfl⟩: ∃q:Nat,x1=q:=⟨x1.toNat,by omega⟩;have Sm:=hide hn1;have vP:=hide hg1;clear hn1 hg1;go_wp2_with fail;exact HK.out _ _ ⟨_,rfl,⟨_,rfl,by omega⟩,⟨HG.out.1.nextg HO.out HM.out Sm.out vP.out,HG.out.2.1.up30 (aU.grown vP.out Mi.out.1),λh=>(HG.out.2.2 h).upO vP.out (λz e=>by injection e with e;have:=Mi.out.2;subst e;exact ⟨by omega,by have:=HG.out.1.up.1;have:=Mi.out.1;omega⟩)⟩,.inl (aU.grown vP.out Mi.out.2)⟩
        ·obtain rfl:v10=.slice (some ⟨b5,o5,none⟩) m5 c5:=(HF.out 10 (HD.out 10 (by simp[bR]))).2 (λ_ h=>by cases h);obtain ⟨q,rfl,hq⟩: ∃q:Nat,v15=.int .i64 (q:Int)/\q<m5:=(HF.out 15 (HD.out 15 (by simp[bR]))).2 (λ_ h=>by cases h);have hq1:(q:Int)<(m5:Int):=by omega
         have hq2:(0:Int)<=(q:Int):=by omega
         refine wpOp_step rfl (λK1 hK=>?_);have HK:=hide hK;clear hK;go_simp;exact HK.out _ _ ⟨_,rfl,⟨q,rfl,hq⟩,⟨HG.out.1,HG.out.2.1,HG.out.2.2⟩,.inl (aU.below (Below.refl _ _))⟩
        ·obtain ⟨q,rfl,hq⟩: ∃q:Nat,v16=.pointer (some ⟨b5,o5+q*2,none⟩)/\q<m5:=(HF.out 16 (HD.out 16 (by simp[bR]))).2 (λ_ h=>by cases h);refine wpOp_step rfl (λK1 hK=>?_);have HK:=hide hK;clear hK;go_simp;exact HK.out _ _ ⟨_,rfl,⟨q,rfl,hq⟩,⟨HG.out.1,HG.out.2.1,HG.out.2.2⟩,.inl (aU.below (Below.refl _ _))⟩
        ·obtain ⟨q,rfl,hq⟩: ∃q:Nat,v17=.pointer (some ⟨b5,o5+q*2,none⟩)/\q<m5:=(HF.out 17 (HD.out 17 (by simp[bR]))).2 (λ_ h=>by cases h);obtain ⟨Ax,nx,cx,row,cx9,hrow⟩:=OH (Sl.keep (λz hz=>HG.out.1.up.2 z hz.1 hz.2) C9.out) hq;have HRW:=hide hrow;clear hrow;refine wpOp_step rfl (λK1 hK=>?_);have HK:=hide hK;clear hK;go_simp;exact HK.out _ _ ⟨_,rfl,⟨_,_,_,row,rfl,HRW.out,HG.out.1.up.1⟩,⟨HG.out.1,HG.out.2.1,HG.out.2.2⟩,.inl (aU.below (Below.refl _ _))⟩
        ·obtain ⟨s,rfl,hs⟩: ∃s,v8=.string s/\Str s:=(HF.out 8 (HD.out 8 (by simp[bR]))).2 (λ_ h=>by cases h);obtain ⟨Ax,nx,cx,row,rfl,hrow,hsz⟩: ∃Ax nx cx,∃row:List Val,v18=.slice Ax nx cx/\(Sl V (λz=>B<=z/\z<Wo.heap.size) Ax nx cx row)/\Wo.heap.size<=V.heap.size:=(HF.out 18 (HD.out 18 (by simp[bR]))).2 (λ_ h=>by cases h);have HRW:=hide hrow;clear hrow;refine wpOp_step rfl (λK1 hK=>?_);have HK:=hide hK;clear hK;go_simp;exact HK.out _ _ ⟨_,rfl,⟨_,_,_,_,row,rfl,HRW.out,hsz,hs⟩,⟨HG.out.1,HG.out.2.1,HG.out.2.2⟩,.inl (aU.below (Below.refl _ _))⟩
        ·obtain ⟨s,Ax,nx,cx,row,rfl,hrow,hsz,hs⟩: ∃s Ax nx cx,∃row:List Val,v19=.agg #[.string s,.slice Ax nx cx]/\(Sl V (λz=>B<=z/\z<Wo.heap.size) Ax nx cx row)/\Wo.heap.size<=V.heap.size/\Str s:=(HF.out 19 (HD.out 19 (by simp[bR]))).2 (λ_ h=>by cases h);have HRW:=hide (Sl.keep (λz hz=>(ae (o:=.cells #[.string s,.slice Ax nx cx] 33)).block z (Nat.lt_of_lt_of_le hz.2 hsz)) hrow);clear hrow;refine wpOp_step rfl (λK1 hK=>?_);have HK:=hide hK;clear hK;go_simp;exact HK.out _ _ ⟨_,rfl,⟨_,s,Ax,nx,cx,row,rfl,by have:=HO.out.2.2.2.2;omega,heap_alloc_new _ _,HRW.out,by simp;omega,hs⟩,⟨HG.out.1.below ae,HG.out.2.1.below ae,λh=>(HG.out.2.2 h).below ae⟩,.inl (aU.below ae)⟩
        ·obtain rfl:v0=u15:=(HF.out 0 (HD.out 0 (by simp[bR]))).2 (λ_ h=>by cases h);obtain ⟨g,s,Ax,nx,cx,row,rfl,hg,hgb,hrow,hsz,hs⟩: ∃g s Ax nx cx,∃row:List Val,v20=.slice (some ⟨g,0,none⟩) 1 1/\B<=g/\V.heap[g]?=some (.cells #[.string s,.slice Ax nx cx] 33 (0,0))/\(Sl V (λz=>B<=z/\z<Wo.heap.size) Ax nx cx row)/\Wo.heap.size<=V.heap.size/\Str s:=(HF.out 20 (HD.out 20 (by simp[bR]))).2 (λu h=>by simp only[MG,List.mem_cons,List.not_mem_nil,or_false]at h;subst h;exact qV.out);have YC:=hide hgb;have HRW:=hide hrow;have HW0:=hide (HG.out.2.2 qV.out);clear hgb hrow;refine wpOp_step rfl (λK1 hK=>?_);have HK:=hide hK;clear hK;refine om (by rfl) ?_;refine kG V _ _ _ rfl tX List.not_mem_nil HW0.out (by simp[Act.eval,Act.put]) (some ⟨g,0,none⟩) 1 1 [.string s,.slice Ax nx cx] [⟨s,row⟩] (by simp[Act.eval,Act.put]) (by intro h;cases h) (Jz YC.out) (Cells.one ⟨_,_,_,rfl,HRW.out.mono (λz hz=>.inl hz),hs⟩) rfl HWL.out.1 HWL.out.2 ?_;intro v9 w9 oQ fK qR kJ;have qG:=hide oQ;have vP:=hide qR;have Ja:=hide (λz (e:v0.ownBlock=some z)=>HW0.out.ty e);clear oQ fK qR kJ;exact HK.out _ _ ⟨_,rfl,⟨_,HO.out.2.2.2.2,qG.out⟩,⟨HG.out.1.own HO.out vP.out (λz e=>(Ja.out z e).1),OL.besideT HG.out.2.1 HW0.out (by decide) (by decide) vP.out,λh=>by simp at h⟩,.inr (λj hj hL hu q=>JE _ _ _ _ _ _ _ _ _ _ _ _ _ _ j _ _ _ _ (λe=>by subst e;exact (hu 21 (by simp[MG])).1 rfl) hj (λe=>by subst e;have h1:L 21=true:=(HF.out 22 hL).1;rw[qV.out]at h1;cases h1) vP.out.size (λz h1 h2 h3=>vP.out.block z h2 (λe=>by have:=(Ja.out z e.symm).1;omega)) q)⟩
        ·obtain ⟨x,hB,ho⟩: ∃x:Wvr,B<=Wo.heap.size/\OL 33 Wo.heap.size (λz=>B<=z) [] V v21 (ws++[x]):=(HF.out 21 (HD.out 21 (by simp[bR]))).2 (λ_ h=>by cases h);have qG:=hide ho;clear ho;refine wpOp_step rfl (λK1 hK=>?_);have HK:=hide hK;clear hK;go_simp;exact HK.out _ _ ⟨_,rfl,⟨x,hB,qG.out⟩,⟨HG.out.1,HG.out.2.1,HG.out.2.2⟩,.inl (aU.below (Below.refl _ _))⟩
       ·intro L vs V hL hvl hG hF;obtain ⟨v0,vJ,rfl,hv0⟩:=af hvl;obtain ⟨v1,vs1,rfl,hv1⟩:=af hv0;obtain ⟨v2,vs2,rfl,hv2⟩:=af hv1;obtain ⟨v3,vs3,rfl,hv3⟩:=af hv2;obtain ⟨v4,AR,rfl,hv4⟩:=af hv3;obtain ⟨v5,AU,rfl,hv5⟩:=af hv4;obtain ⟨v6,AV,rfl,hv6⟩:=af hv5;obtain ⟨v7,AX,rfl,hv7⟩:=af hv6;obtain ⟨v8,AY,rfl,iY⟩:=af hv7;obtain ⟨v9,Gi,rfl,lG⟩:=af iY;obtain ⟨v10,rV,rfl,eH⟩:=af lG;obtain ⟨v11,rW,rfl,eO⟩:=af eH;obtain ⟨v12,uy,rfl,fH⟩:=af eO;obtain ⟨v13,uz,rfl,fI⟩:=af fH;obtain ⟨v14,wQ,rfl,gL⟩:=af fI;obtain ⟨v15,wR,rfl,gM⟩:=af gL;obtain ⟨v16,AJ,rfl,iR⟩:=af gM;obtain ⟨v17,AL,rfl,iT⟩:=af iR;obtain ⟨v18,AO,rfl,iU⟩:=af iT;obtain ⟨v19,AP,rfl,iW⟩:=af iU;obtain ⟨v20,AQ,rfl,iX⟩:=af iW;obtain ⟨v21,Em,rfl,kz⟩:=af iX;obtain ⟨v22,En,rfl,kC⟩:=af kz;obtain rfl:=fo kC;clear hvl hv0 hv1 hv2 hv3 hv4 hv5 hv6 hv7 iY lG eH eO fH fI gL gM iR iT iU iW iX kz kC;have HG:=hide hG;have HF:=hide hF;have HL:=hide hL;clear hG hF hL;obtain ⟨x,_,ho⟩: ∃x:Wvr,B<=Wo.heap.size/\OL 33 Wo.heap.size (λz=>B<=z) [] V v22 (ws++[x]):=HF.out 22 (by show 22<23;omega) rfl;have qG:=hide ho;clear ho;have wk1:IntKind.i64.wrap ((k:Int)-1)=((k-1:Nat):Int):=by rw[show (k:Int)-1=((k-1:Nat):Int) by omega];exact IntWalk.i64_in _ (by omega)
        go_wp2;go_roundw
        case rel=>exact ⟨k-1,ws++[x],by omega,rfl,by simp;omega,qG.out,HG.out.2.1,HG.out.1⟩
        case measure=>simp[RowKit.intOf];omega
      ·have k2:¬(0:Int)<(mc:Int):=by omega
       obtain ⟨Aw,cw,rfl,QS⟩:=HOW.out.inn;obtain ⟨mw,hmw⟩: ∃m,ws.length=m:=⟨_,rfl⟩;have zm:=HOW.out;rw[hmw]at zm⊢;have HOW:=hide zm;have Ml:=hide (show (cs.map Chk.name).Nodup by rw[PL.out];exact DX I9.out (λj hj=>(Ui.out j hj).2));clear QS zm;go_upto_region 27 with (fail);refine cZ (by kernel_rfl) dS (by kernel_rfl) (aU B) (λvs=>⟨#[.slice A n c,.slice A2 n2 c2,undef,undef,.pointer (some ⟨g4,0,none⟩),(vs.getD 6 (.bool false)),(vs.getD 7 (.bool false)),(vs.getD 8 (.bool false)),.pointer (some ⟨gg,0,none⟩),.pointer (some ⟨gh,0,none⟩),.pointer (some ⟨g5,0,none⟩),.pointer (some ⟨g6,0,none⟩),.slice Ac mc cq,.int .i64 0,u14,.slice Aw mw cw,.int .i64 ↑k,.slice A n c,.agg #[.slice A n c,.int .i64 0],.pointer (some ⟨gg,0,none⟩),.slice A2 n2 c2,.agg #[.slice A2 n2 c2,.int .i64 0],.pointer (some ⟨gh,0,none⟩),.slice (some ⟨ga,0,none⟩) 3 3,.slice (some ⟨gb,0,none⟩) 3 3,.pointer (some ⟨gg,0,none⟩),.slice A5 m5 c5,.agg #[.string ⟨#[114]⟩,.slice (some ⟨ga,0,none⟩) 3 3,.slice none 0 0,.slice A5 m5 c5],.slice (some ⟨gc,0,none⟩) 3 3,.slice (some ⟨gd,0,none⟩) 3 3,.pointer (some ⟨gg,0,none⟩),.slice A6 m6 c6,.agg #[.string ⟨#[111]⟩,.slice (some ⟨gc,0,none⟩) 3 3,.slice none 0 0,.slice A6 m6 c6],.pointer (some ⟨gh,0,none⟩),.int .i64 ↑k5,.int .i64 0,.bool false,u37,u38,u39,u40,u41,u42,u43,u44,u45,u46,u47,u48,u49,u50,u51,u52,u53,u54,u55,u56,u57,u58,u59,u60,u61,u62,u63,u64,u65,u66,u67,u68,u69,u70,u71,u72,u73,u74,u75,u76,u77,u78,u79,u80,u81,u82,u83,u84,u85,u86,u87,u88,.pointer (some ⟨gg,0,none⟩),.int .i64 ↑k6,.int .i64 ↑k,.bool true,.bool true,.pointer (some ⟨g5,3,none⟩),.slice A5 m5 c5,.int .i64 ↑m5,.bool true,.bool true,.bool true,.slice Ac mc cq,.int .i64 ↑mc,.bool false,.bool false,u104,u105,u106,u107,u108,u109,u110,u111,u112,u113,u114,u115,u116,u117,u118,u119,u120,u121,u122,u123,u124,u125,u126,u127,(vs.getD 0 (.bool false)),(vs.getD 1 (.bool false)),(vs.getD 2 (.bool false)),(vs.getD 3 (.bool false)),(vs.getD 4 (.bool false))],[]⟩) 9 (by decide) (λL V=>E30 w wr B V/\ ∃X,dC V g4 29 X/\X.length=4/\(L 5=true->X=[.string ⟨#[114]⟩,.slice (some ⟨ga,0,none⟩) 3 3,.slice none 0 0,.slice A5 m5 c5])) zy MH (Ev B (.slice Ac mc cq) (.slice Aw mw cw) [.string ⟨#[114]⟩,.slice (some ⟨ga,0,none⟩) 3 3,.slice none 0 0,.slice A5 m5 c5] [.string ⟨#[111]⟩,.slice (some ⟨gc,0,none⟩) 3 3,.slice none 0 0,.slice A6 m6 c6]) (λ_ _=>True) wI (yt B (.slice Ac mc cq) (.slice Aw mw cw) [.string ⟨#[114]⟩,.slice (some ⟨ga,0,none⟩) 3 3,.slice none 0 0,.slice A5 m5 c5] [.string ⟨#[111]⟩,.slice (some ⟨gc,0,none⟩) 3 3,.slice none 0 0,.slice A6 m6 c6]) [_,_,_,_,_,.bool false,_,_,_] rfl rfl (λ_=>trivial) (⟨⟨aU.below (Below.refl _ _).drew,aa HS.out.bel (Below.refl _ _).drew⟩,_,HS.out.k4.drew,rfl,λh=>by cases h⟩) ?_ ?_
       ·intro L i vs V hi hvl hL hd hG hF nY;obtain ⟨v0,vJ,rfl,hv0⟩:=af hvl;obtain ⟨v1,vs1,rfl,hv1⟩:=af hv0;obtain ⟨v2,vs2,rfl,hv2⟩:=af hv1;obtain ⟨v3,vs3,rfl,hv3⟩:=af hv2;obtain ⟨v4,AR,rfl,hv4⟩:=af hv3;obtain ⟨v5,AU,rfl,hv5⟩:=af hv4;obtain ⟨v6,AV,rfl,hv6⟩:=af hv5;obtain ⟨v7,AX,rfl,hv7⟩:=af hv6;obtain ⟨v8,AY,rfl,iY⟩:=af hv7;obtain rfl:=fo iY;clear hvl hv0 hv1 hv2 hv3 hv4 hv5 hv6 hv7 iY;have hi:i<9:=hi;have HG:=hide hG;have HF:=hide hF;have HD:=hide hd;have qV:=hide hL;have Gn:=hide nY;clear hG hF hd hL nY;obtain rfl|rfl|rfl|rfl|rfl|rfl|rfl|rfl|rfl:i=0\/i=1\/i=2\/i=3\/i=4\/i=5\/i=6\/i=7\/i=8:=by omega
        ·obtain ⟨Zi,r0,r1,r2,r3⟩:=(PK.out.up30 Ue.out (HS.out.up.trans HG.out.1.up)).ats4;refine wpOp_step rfl (λK1 hK=>?_);have HK:=hide hK;clear hK;go_simp;exact HK.out _ _ ⟨_,rfl,rfl,⟨HG.out.1,HG.out.2⟩,.inl (aU.below (Below.refl _ _))⟩
        ·refine wpOp_step rfl (λK1 hK=>?_);have HK:=hide hK;clear hK;go_simp;exact HK.out _ _ ⟨_,rfl,rfl,⟨HG.out.1,HG.out.2⟩,.inl (aU.below (Below.refl _ _))⟩
        ·obtain ⟨LTO,o0,o1,o2,o3⟩:=(Uh.out.up30 YB.out (HS.out.up.trans HG.out.1.up)).ats4;refine wpOp_step rfl (λK1 hK=>?_);have HK:=hide hK;clear hK;go_simp;exact HK.out _ _ ⟨_,rfl,rfl,⟨HG.out.1,HG.out.2⟩,.inl (aU.below (Below.refl _ _))⟩
        ·obtain rfl:v2=.agg [.string ⟨#[111]⟩,.slice (some ⟨gc,0,none⟩) 3 3,.slice none 0 0,.slice A6 m6 c6].toArray:=(HF.out 2 (HD.out 2 (by simp[dS]))).2 (λ_ h=>by cases h);refine wpOp_step rfl (λK1 hK=>?_);have HK:=hide hK;clear hK;go_simp;exact HK.out _ _ ⟨_,rfl,⟨_,rfl,Nat.le_trans HO.out.2.2.2.2 (Nat.le_trans HS.out.up.1 HG.out.1.up.1),dC.made _ _ _⟩,⟨HG.out.1.below ae,by obtain ⟨X,h1,h2⟩:=HG.out.2;exact ⟨X,h1.below ae,h2⟩⟩,.inl (aU.below ae)⟩
        ·refine wpOp_step rfl (λK1 hK=>?_);have HK:=hide hK;clear hK;go_simp;exact HK.out _ _ ⟨_,rfl,rfl,⟨HG.out.1,HG.out.2⟩,.inl (aU.below (Below.refl _ _))⟩
        ·obtain rfl:v0=.agg [.string ⟨#[114]⟩,.slice (some ⟨ga,0,none⟩) 3 3,.slice none 0 0,.slice A5 m5 c5].toArray:=(HF.out 0 (HD.out 0 (by simp[dS]))).2 (λ_ h=>by cases h);obtain ⟨X,hX,Ry,_⟩:=HG.out.2;obtain ⟨X0,X1,X2,X3,rfl⟩: ∃a b c d,X=[a,b,c,d]:=by match X,Ry with| [a,b,c,d],_=>exact ⟨a,b,c,d,rfl⟩
         have HX:=hide hX;obtain ⟨LT4,z0,z1,z2,z3⟩:=hX.ats4;have zf0:=hX.fz 0;have zf1:=hX.fz 1;have zf2:=hX.fz 2;have zf3:=hX.fz 3;have JI:=hide (show g4<B by obtain ⟨_,_,_,_,_⟩:=HO.out;omega);clear hX Ry;refine wpOp_step rfl (λK1 hK=>?_);have HK:=hide hK;clear hK;go_simp;exact HK.out _ _ ⟨.bool false,rfl,trivial,⟨HG.out.1.set4 JI.out (by have:=HO.out.1;omega),_,HX.out.set4 rfl,rfl,λ_=>rfl⟩,.inl ((aU.grown (yZ _ _ _ _ _ _) JI.out))⟩
        ·obtain rfl:v1=(.slice Ac mc cq):=(HF.out 1 (HD.out 1 (by simp[dS]))).2 (λ_ h=>by cases h);refine wpOp_step rfl (λK1 hK=>?_);have HK:=hide hK;clear hK;go_simp;exact HK.out _ _ ⟨_,rfl,rfl,⟨HG.out.1,HG.out.2⟩,.inl (aU.below (Below.refl _ _))⟩
        ·obtain ⟨d,rfl,hd,hb⟩: ∃d,v3=.slice (some ⟨d,0,none⟩) 1 1/\B<=d/\dC V d 29 [.string ⟨#[111]⟩,.slice (some ⟨gc,0,none⟩) 3 3,.slice none 0 0,.slice A6 m6 c6]:=(HF.out 3 (HD.out 3 (by simp[dS]))).2 (λ_ h=>by cases h);have Ex:=hide hb;clear hb;refine wpOp_step rfl (λK1 hK=>?_);have HK:=hide hK;clear hK;go_simp;exact HK.out _ _ ⟨_,rfl,⟨_,rfl,hd,Ex.out⟩,⟨HG.out.1,HG.out.2⟩,.inl (aU.below (Below.refl _ _))⟩
        ·obtain rfl:v4=(.slice Aw mw cw):=(HF.out 4 (HD.out 4 (by simp[dS]))).2 (λ_ h=>by cases h);refine wpOp_step rfl (λK1 hK=>?_);have HK:=hide hK;clear hK;go_simp;exact HK.out _ _ ⟨_,rfl,rfl,⟨HG.out.1,HG.out.2⟩,.inl (aU.below (Below.refl _ _))⟩
       ·intro L vs V hL hvl hG hF;obtain ⟨v0,vJ,rfl,hv0⟩:=af hvl;obtain ⟨v1,vs1,rfl,hv1⟩:=af hv0;obtain ⟨v2,vs2,rfl,hv2⟩:=af hv1;obtain ⟨v3,vs3,rfl,hv3⟩:=af hv2;obtain ⟨v4,AR,rfl,hv4⟩:=af hv3;obtain ⟨v5,AU,rfl,hv5⟩:=af hv4;obtain ⟨v6,AV,rfl,hv6⟩:=af hv5;obtain ⟨v7,AX,rfl,hv7⟩:=af hv6;obtain ⟨v8,AY,rfl,iY⟩:=af hv7;obtain rfl:=fo iY;clear hvl hv0 hv1 hv2 hv3 hv4 hv5 hv6 hv7 iY;have HG:=hide hG;have HF:=hide hF;have HL:=hide hL;clear hG hF hL;obtain rfl:v6=(.slice Ac mc cq):=HF.out 6 (by show 6<9;omega) rfl;obtain ⟨d,rfl,hd,hb⟩: ∃d,v7=.slice (some ⟨d,0,none⟩) 1 1/\B<=d/\dC V d 29 [.string ⟨#[111]⟩,.slice (some ⟨gc,0,none⟩) 3 3,.slice none 0 0,.slice A6 m6 c6]:=HF.out 7 (by show 7<9;omega) rfl;obtain rfl:v8=(.slice Aw mw cw):=HF.out 8 (by show 8<9;omega) rfl;have Ex:=hide hb;obtain ⟨X,hX,_,Rz⟩:=HG.out.2;obtain rfl:=Rz (HL.out 5 (by show 5<9;omega));have HX:=hide hX;have HE:=hide HG.out.1;clear hb hX Rz;go_wp2_with fail;refine bodyPost_ret (v:=.tuple #[.agg ([.string ⟨#[114]⟩,.slice (some ⟨ga,0,none⟩) 3 3,.slice none 0 0,.slice A5 m5 c5]:List Value).toArray,.slice Ac mc cq,.slice (some ⟨d,0,none⟩) 1 1,.slice Aw mw cw]) (qw (cs:=[.string ⟨#[114]⟩,.slice (some ⟨ga,0,none⟩) 3 3,.slice none 0 0,.slice A5 m5 c5]) rfl _ _ g4 _ _ _ _ rfl rfl rfl rfl HX.out.all Tryz.underlying29 rfl (by kernel_rfl)) rfl ?_;exact ⟨⟨_,A5,m5,c5,Ac,mc,cq,_,Aw,mw,cw,rows,orows,cs,ws,rfl,(Bf.out.up30 (HS.out.up.trans HE.out.up)).inn,(C9.out.up30 (HS.out.up.trans HE.out.up)).inn,eu (oG.out.upB HE.out.up HO.out.2.2.2.2) Rn.out,pY Ex.out (Ez.out.up30 (HS.out.up.trans HE.out.up)).inn (Sn.out.up30 (HS.out.up.trans HE.out.up)).inn,eu (HOW.out.upW HE.out.up HO.out.2.2.2.2) hmw,Xg.out,Y4.out,qF.out,Ml.out,by rw[Rn.out];exact TH,by omega⟩,HE.out.bel⟩
     ·have k1:¬(0:Int)<(m5:Int):=by omega
      obtain ⟨Aw,cw,rfl,QS⟩:=HOW.out.inn;obtain ⟨mw,hmw⟩: ∃m,ws.length=m:=⟨_,rfl⟩;have zm:=HOW.out;rw[hmw]at zm⊢;have HOW:=hide zm;have Ml:=hide (show (cs.map Chk.name).Nodup by rw[PL.out];exact DX I9.out (λj hj=>(Ui.out j hj).2));clear QS zm;go_upto_region 27 with (fail);refine cZ (by kernel_rfl) dS (by kernel_rfl) (aU B) (λvs=>⟨#[.slice A n c,.slice A2 n2 c2,undef,undef,.pointer (some ⟨g4,0,none⟩),(vs.getD 6 (.bool false)),(vs.getD 7 (.bool false)),(vs.getD 8 (.bool false)),.pointer (some ⟨gg,0,none⟩),.pointer (some ⟨gh,0,none⟩),.pointer (some ⟨g5,0,none⟩),.pointer (some ⟨g6,0,none⟩),.slice Ac mc cq,.int .i64 0,u14,.slice Aw mw cw,.int .i64 ↑k,.slice A n c,.agg #[.slice A n c,.int .i64 0],.pointer (some ⟨gg,0,none⟩),.slice A2 n2 c2,.agg #[.slice A2 n2 c2,.int .i64 0],.pointer (some ⟨gh,0,none⟩),.slice (some ⟨ga,0,none⟩) 3 3,.slice (some ⟨gb,0,none⟩) 3 3,.pointer (some ⟨gg,0,none⟩),.slice A5 m5 c5,.agg #[.string ⟨#[114]⟩,.slice (some ⟨ga,0,none⟩) 3 3,.slice none 0 0,.slice A5 m5 c5],.slice (some ⟨gc,0,none⟩) 3 3,.slice (some ⟨gd,0,none⟩) 3 3,.pointer (some ⟨gg,0,none⟩),.slice A6 m6 c6,.agg #[.string ⟨#[111]⟩,.slice (some ⟨gc,0,none⟩) 3 3,.slice none 0 0,.slice A6 m6 c6],.pointer (some ⟨gh,0,none⟩),.int .i64 ↑k5,.int .i64 0,.bool false,u37,u38,u39,u40,u41,u42,u43,u44,u45,u46,u47,u48,u49,u50,u51,u52,u53,u54,u55,u56,u57,u58,u59,u60,u61,u62,u63,u64,u65,u66,u67,u68,u69,u70,u71,u72,u73,u74,u75,u76,u77,u78,u79,u80,u81,u82,u83,u84,u85,u86,u87,u88,.pointer (some ⟨gg,0,none⟩),.int .i64 ↑k6,.int .i64 ↑k,.bool true,.bool true,.pointer (some ⟨g5,3,none⟩),.slice A5 m5 c5,.int .i64 ↑m5,.bool false,.bool false,.bool false,undef,undef,undef,.bool false,u104,u105,u106,u107,u108,u109,u110,u111,u112,u113,u114,u115,u116,u117,u118,u119,u120,u121,u122,u123,u124,u125,u126,u127,(vs.getD 0 (.bool false)),(vs.getD 1 (.bool false)),(vs.getD 2 (.bool false)),(vs.getD 3 (.bool false)),(vs.getD 4 (.bool false))],[]⟩) 9 (by decide) (λL V=>E30 w wr B V/\ ∃X,dC V g4 29 X/\X.length=4/\(L 5=true->X=[.string ⟨#[114]⟩,.slice (some ⟨ga,0,none⟩) 3 3,.slice none 0 0,.slice A5 m5 c5])) zy MH (Ev B (.slice Ac mc cq) (.slice Aw mw cw) [.string ⟨#[114]⟩,.slice (some ⟨ga,0,none⟩) 3 3,.slice none 0 0,.slice A5 m5 c5] [.string ⟨#[111]⟩,.slice (some ⟨gc,0,none⟩) 3 3,.slice none 0 0,.slice A6 m6 c6]) (λ_ _=>True) wI (yt B (.slice Ac mc cq) (.slice Aw mw cw) [.string ⟨#[114]⟩,.slice (some ⟨ga,0,none⟩) 3 3,.slice none 0 0,.slice A5 m5 c5] [.string ⟨#[111]⟩,.slice (some ⟨gc,0,none⟩) 3 3,.slice none 0 0,.slice A6 m6 c6]) [_,_,_,_,_,.bool false,_,_,_] rfl rfl (λ_=>trivial) (⟨⟨aU.below (Below.refl _ _).drew,aa HS.out.bel (Below.refl _ _).drew⟩,_,HS.out.k4.drew,rfl,λh=>by cases h⟩) ?_ ?_
      ·intro L i vs V hi hvl hL hd hG hF nY;obtain ⟨v0,vJ,rfl,hv0⟩:=af hvl;obtain ⟨v1,vs1,rfl,hv1⟩:=af hv0;obtain ⟨v2,vs2,rfl,hv2⟩:=af hv1;obtain ⟨v3,vs3,rfl,hv3⟩:=af hv2;obtain ⟨v4,AR,rfl,hv4⟩:=af hv3;obtain ⟨v5,AU,rfl,hv5⟩:=af hv4;obtain ⟨v6,AV,rfl,hv6⟩:=af hv5;obtain ⟨v7,AX,rfl,hv7⟩:=af hv6;obtain ⟨v8,AY,rfl,iY⟩:=af hv7;obtain rfl:=fo iY;clear hvl hv0 hv1 hv2 hv3 hv4 hv5 hv6 hv7 iY;have hi:i<9:=hi;have HG:=hide hG;have HF:=hide hF;have HD:=hide hd;have qV:=hide hL;have Gn:=hide nY;clear hG hF hd hL nY;obtain rfl|rfl|rfl|rfl|rfl|rfl|rfl|rfl|rfl:i=0\/i=1\/i=2\/i=3\/i=4\/i=5\/i=6\/i=7\/i=8:=by omega
       ·obtain ⟨Zi,r0,r1,r2,r3⟩:=(PK.out.up30 Ue.out (HS.out.up.trans HG.out.1.up)).ats4;refine wpOp_step rfl (λK1 hK=>?_);have HK:=hide hK;clear hK;go_simp;exact HK.out _ _ ⟨_,rfl,rfl,⟨HG.out.1,HG.out.2⟩,.inl (aU.below (Below.refl _ _))⟩
       ·refine wpOp_step rfl (λK1 hK=>?_);have HK:=hide hK;clear hK;go_simp;exact HK.out _ _ ⟨_,rfl,rfl,⟨HG.out.1,HG.out.2⟩,.inl (aU.below (Below.refl _ _))⟩
       ·obtain ⟨LTO,o0,o1,o2,o3⟩:=(Uh.out.up30 YB.out (HS.out.up.trans HG.out.1.up)).ats4;refine wpOp_step rfl (λK1 hK=>?_);have HK:=hide hK;clear hK;go_simp;exact HK.out _ _ ⟨_,rfl,rfl,⟨HG.out.1,HG.out.2⟩,.inl (aU.below (Below.refl _ _))⟩
       ·obtain rfl:v2=.agg [.string ⟨#[111]⟩,.slice (some ⟨gc,0,none⟩) 3 3,.slice none 0 0,.slice A6 m6 c6].toArray:=(HF.out 2 (HD.out 2 (by simp[dS]))).2 (λ_ h=>by cases h);refine wpOp_step rfl (λK1 hK=>?_);have HK:=hide hK;clear hK;go_simp;exact HK.out _ _ ⟨_,rfl,⟨_,rfl,Nat.le_trans HO.out.2.2.2.2 (Nat.le_trans HS.out.up.1 HG.out.1.up.1),dC.made _ _ _⟩,⟨HG.out.1.below ae,by obtain ⟨X,h1,h2⟩:=HG.out.2;exact ⟨X,h1.below ae,h2⟩⟩,.inl (aU.below ae)⟩
       ·refine wpOp_step rfl (λK1 hK=>?_);have HK:=hide hK;clear hK;go_simp;exact HK.out _ _ ⟨_,rfl,rfl,⟨HG.out.1,HG.out.2⟩,.inl (aU.below (Below.refl _ _))⟩
       ·obtain rfl:v0=.agg [.string ⟨#[114]⟩,.slice (some ⟨ga,0,none⟩) 3 3,.slice none 0 0,.slice A5 m5 c5].toArray:=(HF.out 0 (HD.out 0 (by simp[dS]))).2 (λ_ h=>by cases h);obtain ⟨X,hX,Ry,_⟩:=HG.out.2;obtain ⟨X0,X1,X2,X3,rfl⟩: ∃a b c d,X=[a,b,c,d]:=by match X,Ry with| [a,b,c,d],_=>exact ⟨a,b,c,d,rfl⟩
        have HX:=hide hX;obtain ⟨LT4,z0,z1,z2,z3⟩:=hX.ats4;have zf0:=hX.fz 0;have zf1:=hX.fz 1;have zf2:=hX.fz 2;have zf3:=hX.fz 3;have JI:=hide (show g4<B by obtain ⟨_,_,_,_,_⟩:=HO.out;omega);clear hX Ry;refine wpOp_step rfl (λK1 hK=>?_);have HK:=hide hK;clear hK;go_simp;exact HK.out _ _ ⟨.bool false,rfl,trivial,⟨HG.out.1.set4 JI.out (by have:=HO.out.1;omega),_,HX.out.set4 rfl,rfl,λ_=>rfl⟩,.inl ((aU.grown (yZ _ _ _ _ _ _) JI.out))⟩
       ·obtain rfl:v1=(.slice Ac mc cq):=(HF.out 1 (HD.out 1 (by simp[dS]))).2 (λ_ h=>by cases h);refine wpOp_step rfl (λK1 hK=>?_);have HK:=hide hK;clear hK;go_simp;exact HK.out _ _ ⟨_,rfl,rfl,⟨HG.out.1,HG.out.2⟩,.inl (aU.below (Below.refl _ _))⟩
       ·obtain ⟨d,rfl,hd,hb⟩: ∃d,v3=.slice (some ⟨d,0,none⟩) 1 1/\B<=d/\dC V d 29 [.string ⟨#[111]⟩,.slice (some ⟨gc,0,none⟩) 3 3,.slice none 0 0,.slice A6 m6 c6]:=(HF.out 3 (HD.out 3 (by simp[dS]))).2 (λ_ h=>by cases h);have Ex:=hide hb;clear hb;refine wpOp_step rfl (λK1 hK=>?_);have HK:=hide hK;clear hK;go_simp;exact HK.out _ _ ⟨_,rfl,⟨_,rfl,hd,Ex.out⟩,⟨HG.out.1,HG.out.2⟩,.inl (aU.below (Below.refl _ _))⟩
       ·obtain rfl:v4=(.slice Aw mw cw):=(HF.out 4 (HD.out 4 (by simp[dS]))).2 (λ_ h=>by cases h);refine wpOp_step rfl (λK1 hK=>?_);have HK:=hide hK;clear hK;go_simp;exact HK.out _ _ ⟨_,rfl,rfl,⟨HG.out.1,HG.out.2⟩,.inl (aU.below (Below.refl _ _))⟩
      ·intro L vs V hL hvl hG hF;obtain ⟨v0,vJ,rfl,hv0⟩:=af hvl;obtain ⟨v1,vs1,rfl,hv1⟩:=af hv0;obtain ⟨v2,vs2,rfl,hv2⟩:=af hv1;obtain ⟨v3,vs3,rfl,hv3⟩:=af hv2;obtain ⟨v4,AR,rfl,hv4⟩:=af hv3;obtain ⟨v5,AU,rfl,hv5⟩:=af hv4;obtain ⟨v6,AV,rfl,hv6⟩:=af hv5;obtain ⟨v7,AX,rfl,hv7⟩:=af hv6;obtain ⟨v8,AY,rfl,iY⟩:=af hv7;obtain rfl:=fo iY;clear hvl hv0 hv1 hv2 hv3 hv4 hv5 hv6 hv7 iY;have HG:=hide hG;have HF:=hide hF;have HL:=hide hL;clear hG hF hL;obtain rfl:v6=(.slice Ac mc cq):=HF.out 6 (by show 6<9;omega) rfl;obtain ⟨d,rfl,hd,hb⟩: ∃d,v7=.slice (some ⟨d,0,none⟩) 1 1/\B<=d/\dC V d 29 [.string ⟨#[111]⟩,.slice (some ⟨gc,0,none⟩) 3 3,.slice none 0 0,.slice A6 m6 c6]:=HF.out 7 (by show 7<9;omega) rfl;obtain rfl:v8=(.slice Aw mw cw):=HF.out 8 (by show 8<9;omega) rfl;have Ex:=hide hb;obtain ⟨X,hX,_,Rz⟩:=HG.out.2;obtain rfl:=Rz (HL.out 5 (by show 5<9;omega));have HX:=hide hX;have HE:=hide HG.out.1;clear hb hX Rz;go_wp2_with fail;refine bodyPost_ret (v:=.tuple #[.agg ([.string ⟨#[114]⟩,.slice (some ⟨ga,0,none⟩) 3 3,.slice none 0 0,.slice A5 m5 c5]:List Value).toArray,.slice Ac mc cq,.slice (some ⟨d,0,none⟩) 1 1,.slice Aw mw cw]) (qw (cs:=[.string ⟨#[114]⟩,.slice (some ⟨ga,0,none⟩) 3 3,.slice none 0 0,.slice A5 m5 c5]) rfl _ _ g4 _ _ _ _ rfl rfl rfl rfl HX.out.all Tryz.underlying29 rfl (by kernel_rfl)) rfl ?_;exact ⟨⟨_,A5,m5,c5,Ac,mc,cq,_,Aw,mw,cw,rows,orows,cs,ws,rfl,(Bf.out.up30 (HS.out.up.trans HE.out.up)).inn,(C9.out.up30 (HS.out.up.trans HE.out.up)).inn,eu (oG.out.upB HE.out.up HO.out.2.2.2.2) Rn.out,pY Ex.out (Ez.out.up30 (HS.out.up.trans HE.out.up)).inn (Sn.out.up30 (HS.out.up.trans HE.out.up)).inn,eu (HOW.out.upW HE.out.up HO.out.2.2.2.2) hmw,Xg.out,Y4.out,qF.out,Ml.out,by rw[Rn.out];exact TH,by omega⟩,HE.out.bel⟩
    ·have k0:¬(0:Int)<(k:Int):=by omega
     obtain ⟨Aw,cw,rfl,QS⟩:=HOW.out.inn;obtain ⟨mw,hmw⟩: ∃m,ws.length=m:=⟨_,rfl⟩;have zm:=HOW.out;rw[hmw]at zm⊢;have HOW:=hide zm;have Ml:=hide (show (cs.map Chk.name).Nodup by rw[PL.out];exact DX I9.out (λj hj=>(Ui.out j hj).2));clear QS zm;go_upto_region 27 with (fail);refine cZ (by kernel_rfl) dS (by kernel_rfl) (aU B) (λvs=>⟨#[.slice A n c,.slice A2 n2 c2,undef,undef,.pointer (some ⟨g4,0,none⟩),(vs.getD 6 (.bool false)),(vs.getD 7 (.bool false)),(vs.getD 8 (.bool false)),.pointer (some ⟨gg,0,none⟩),.pointer (some ⟨gh,0,none⟩),.pointer (some ⟨g5,0,none⟩),.pointer (some ⟨g6,0,none⟩),.slice Ac mc cq,.int .i64 0,u14,.slice Aw mw cw,.int .i64 ↑k,.slice A n c,.agg #[.slice A n c,.int .i64 0],.pointer (some ⟨gg,0,none⟩),.slice A2 n2 c2,.agg #[.slice A2 n2 c2,.int .i64 0],.pointer (some ⟨gh,0,none⟩),.slice (some ⟨ga,0,none⟩) 3 3,.slice (some ⟨gb,0,none⟩) 3 3,.pointer (some ⟨gg,0,none⟩),.slice A5 m5 c5,.agg #[.string ⟨#[114]⟩,.slice (some ⟨ga,0,none⟩) 3 3,.slice none 0 0,.slice A5 m5 c5],.slice (some ⟨gc,0,none⟩) 3 3,.slice (some ⟨gd,0,none⟩) 3 3,.pointer (some ⟨gg,0,none⟩),.slice A6 m6 c6,.agg #[.string ⟨#[111]⟩,.slice (some ⟨gc,0,none⟩) 3 3,.slice none 0 0,.slice A6 m6 c6],.pointer (some ⟨gh,0,none⟩),.int .i64 ↑k5,.int .i64 0,.bool false,u37,u38,u39,u40,u41,u42,u43,u44,u45,u46,u47,u48,u49,u50,u51,u52,u53,u54,u55,u56,u57,u58,u59,u60,u61,u62,u63,u64,u65,u66,u67,u68,u69,u70,u71,u72,u73,u74,u75,u76,u77,u78,u79,u80,u81,u82,u83,u84,u85,u86,u87,u88,.pointer (some ⟨gg,0,none⟩),.int .i64 ↑k6,.int .i64 ↑k,.bool false,.bool false,undef,undef,undef,undef,.bool false,.bool false,undef,undef,undef,.bool false,u104,u105,u106,u107,u108,u109,u110,u111,u112,u113,u114,u115,u116,u117,u118,u119,u120,u121,u122,u123,u124,u125,u126,u127,(vs.getD 0 (.bool false)),(vs.getD 1 (.bool false)),(vs.getD 2 (.bool false)),(vs.getD 3 (.bool false)),(vs.getD 4 (.bool false))],[]⟩) 9 (by decide) (λL V=>E30 w wr B V/\ ∃X,dC V g4 29 X/\X.length=4/\(L 5=true->X=[.string ⟨#[114]⟩,.slice (some ⟨ga,0,none⟩) 3 3,.slice none 0 0,.slice A5 m5 c5])) zy MH (Ev B (.slice Ac mc cq) (.slice Aw mw cw) [.string ⟨#[114]⟩,.slice (some ⟨ga,0,none⟩) 3 3,.slice none 0 0,.slice A5 m5 c5] [.string ⟨#[111]⟩,.slice (some ⟨gc,0,none⟩) 3 3,.slice none 0 0,.slice A6 m6 c6]) (λ_ _=>True) wI (yt B (.slice Ac mc cq) (.slice Aw mw cw) [.string ⟨#[114]⟩,.slice (some ⟨ga,0,none⟩) 3 3,.slice none 0 0,.slice A5 m5 c5] [.string ⟨#[111]⟩,.slice (some ⟨gc,0,none⟩) 3 3,.slice none 0 0,.slice A6 m6 c6]) [_,_,_,_,_,.bool false,_,_,_] rfl rfl (λ_=>trivial) (⟨⟨aU.below (Below.refl _ _).drew,aa HS.out.bel (Below.refl _ _).drew⟩,_,HS.out.k4.drew,rfl,λh=>by cases h⟩) ?_ ?_
     ·intro L i vs V hi hvl hL hd hG hF nY;obtain ⟨v0,vJ,rfl,hv0⟩:=af hvl;obtain ⟨v1,vs1,rfl,hv1⟩:=af hv0;obtain ⟨v2,vs2,rfl,hv2⟩:=af hv1;obtain ⟨v3,vs3,rfl,hv3⟩:=af hv2;obtain ⟨v4,AR,rfl,hv4⟩:=af hv3;obtain ⟨v5,AU,rfl,hv5⟩:=af hv4;obtain ⟨v6,AV,rfl,hv6⟩:=af hv5;obtain ⟨v7,AX,rfl,hv7⟩:=af hv6;obtain ⟨v8,AY,rfl,iY⟩:=af hv7;obtain rfl:=fo iY;clear hvl hv0 hv1 hv2 hv3 hv4 hv5 hv6 hv7 iY;have hi:i<9:=hi;have HG:=hide hG;have HF:=hide hF;have HD:=hide hd;have qV:=hide hL;have Gn:=hide nY;clear hG hF hd hL nY;obtain rfl|rfl|rfl|rfl|rfl|rfl|rfl|rfl|rfl:i=0\/i=1\/i=2\/i=3\/i=4\/i=5\/i=6\/i=7\/i=8:=by omega
      ·obtain ⟨Zi,r0,r1,r2,r3⟩:=(PK.out.up30 Ue.out (HS.out.up.trans HG.out.1.up)).ats4;refine wpOp_step rfl (λK1 hK=>?_);have HK:=hide hK;clear hK;go_simp;exact HK.out _ _ ⟨_,rfl,rfl,⟨HG.out.1,HG.out.2⟩,.inl (aU.below (Below.refl _ _))⟩
      ·refine wpOp_step rfl (λK1 hK=>?_);have HK:=hide hK;clear hK;go_simp;exact HK.out _ _ ⟨_,rfl,rfl,⟨HG.out.1,HG.out.2⟩,.inl (aU.below (Below.refl _ _))⟩
      ·obtain ⟨LTO,o0,o1,o2,o3⟩:=(Uh.out.up30 YB.out (HS.out.up.trans HG.out.1.up)).ats4;refine wpOp_step rfl (λK1 hK=>?_);have HK:=hide hK;clear hK;go_simp;exact HK.out _ _ ⟨_,rfl,rfl,⟨HG.out.1,HG.out.2⟩,.inl (aU.below (Below.refl _ _))⟩
      ·obtain rfl:v2=.agg [.string ⟨#[111]⟩,.slice (some ⟨gc,0,none⟩) 3 3,.slice none 0 0,.slice A6 m6 c6].toArray:=(HF.out 2 (HD.out 2 (by simp[dS]))).2 (λ_ h=>by cases h);refine wpOp_step rfl (λK1 hK=>?_);have HK:=hide hK;clear hK;go_simp;exact HK.out _ _ ⟨_,rfl,⟨_,rfl,Nat.le_trans HO.out.2.2.2.2 (Nat.le_trans HS.out.up.1 HG.out.1.up.1),dC.made _ _ _⟩,⟨HG.out.1.below ae,by obtain ⟨X,h1,h2⟩:=HG.out.2;exact ⟨X,h1.below ae,h2⟩⟩,.inl (aU.below ae)⟩
      ·refine wpOp_step rfl (λK1 hK=>?_);have HK:=hide hK;clear hK;go_simp;exact HK.out _ _ ⟨_,rfl,rfl,⟨HG.out.1,HG.out.2⟩,.inl (aU.below (Below.refl _ _))⟩
      ·obtain rfl:v0=.agg [.string ⟨#[114]⟩,.slice (some ⟨ga,0,none⟩) 3 3,.slice none 0 0,.slice A5 m5 c5].toArray:=(HF.out 0 (HD.out 0 (by simp[dS]))).2 (λ_ h=>by cases h);obtain ⟨X,hX,Ry,_⟩:=HG.out.2;obtain ⟨X0,X1,X2,X3,rfl⟩: ∃a b c d,X=[a,b,c,d]:=by match X,Ry with| [a,b,c,d],_=>exact ⟨a,b,c,d,rfl⟩
       have HX:=hide hX;obtain ⟨LT4,z0,z1,z2,z3⟩:=hX.ats4;have zf0:=hX.fz 0;have zf1:=hX.fz 1;have zf2:=hX.fz 2;have zf3:=hX.fz 3;have JI:=hide (show g4<B by obtain ⟨_,_,_,_,_⟩:=HO.out;omega);clear hX Ry;refine wpOp_step rfl (λK1 hK=>?_);have HK:=hide hK;clear hK;go_simp;exact HK.out _ _ ⟨.bool false,rfl,trivial,⟨HG.out.1.set4 JI.out (by have:=HO.out.1;omega),_,HX.out.set4 rfl,rfl,λ_=>rfl⟩,.inl ((aU.grown (yZ _ _ _ _ _ _) JI.out))⟩
      ·obtain rfl:v1=(.slice Ac mc cq):=(HF.out 1 (HD.out 1 (by simp[dS]))).2 (λ_ h=>by cases h);refine wpOp_step rfl (λK1 hK=>?_);have HK:=hide hK;clear hK;go_simp;exact HK.out _ _ ⟨_,rfl,rfl,⟨HG.out.1,HG.out.2⟩,.inl (aU.below (Below.refl _ _))⟩
      ·obtain ⟨d,rfl,hd,hb⟩: ∃d,v3=.slice (some ⟨d,0,none⟩) 1 1/\B<=d/\dC V d 29 [.string ⟨#[111]⟩,.slice (some ⟨gc,0,none⟩) 3 3,.slice none 0 0,.slice A6 m6 c6]:=(HF.out 3 (HD.out 3 (by simp[dS]))).2 (λ_ h=>by cases h);have Ex:=hide hb;clear hb;refine wpOp_step rfl (λK1 hK=>?_);have HK:=hide hK;clear hK;go_simp;exact HK.out _ _ ⟨_,rfl,⟨_,rfl,hd,Ex.out⟩,⟨HG.out.1,HG.out.2⟩,.inl (aU.below (Below.refl _ _))⟩
      ·obtain rfl:v4=(.slice Aw mw cw):=(HF.out 4 (HD.out 4 (by simp[dS]))).2 (λ_ h=>by cases h);refine wpOp_step rfl (λK1 hK=>?_);have HK:=hide hK;clear hK;go_simp;exact HK.out _ _ ⟨_,rfl,rfl,⟨HG.out.1,HG.out.2⟩,.inl (aU.below (Below.refl _ _))⟩
     ·intro L vs V hL hvl hG hF;obtain ⟨v0,vJ,rfl,hv0⟩:=af hvl;obtain ⟨v1,vs1,rfl,hv1⟩:=af hv0;obtain ⟨v2,vs2,rfl,hv2⟩:=af hv1;obtain ⟨v3,vs3,rfl,hv3⟩:=af hv2;obtain ⟨v4,AR,rfl,hv4⟩:=af hv3;obtain ⟨v5,AU,rfl,hv5⟩:=af hv4;obtain ⟨v6,AV,rfl,hv6⟩:=af hv5;obtain ⟨v7,AX,rfl,hv7⟩:=af hv6;obtain ⟨v8,AY,rfl,iY⟩:=af hv7;obtain rfl:=fo iY;clear hvl hv0 hv1 hv2 hv3 hv4 hv5 hv6 hv7 iY;have HG:=hide hG;have HF:=hide hF;have HL:=hide hL;clear hG hF hL;obtain rfl:v6=(.slice Ac mc cq):=HF.out 6 (by show 6<9;omega) rfl;obtain ⟨d,rfl,hd,hb⟩: ∃d,v7=.slice (some ⟨d,0,none⟩) 1 1/\B<=d/\dC V d 29 [.string ⟨#[111]⟩,.slice (some ⟨gc,0,none⟩) 3 3,.slice none 0 0,.slice A6 m6 c6]:=HF.out 7 (by show 7<9;omega) rfl;obtain rfl:v8=(.slice Aw mw cw):=HF.out 8 (by show 8<9;omega) rfl;have Ex:=hide hb;obtain ⟨X,hX,_,Rz⟩:=HG.out.2;obtain rfl:=Rz (HL.out 5 (by show 5<9;omega));have HX:=hide hX;have HE:=hide HG.out.1;clear hb hX Rz;go_wp2_with fail;refine bodyPost_ret (v:=.tuple #[.agg ([.string ⟨#[114]⟩,.slice (some ⟨ga,0,none⟩) 3 3,.slice none 0 0,.slice A5 m5 c5]:List Value).toArray,.slice Ac mc cq,.slice (some ⟨d,0,none⟩) 1 1,.slice Aw mw cw]) (qw (cs:=[.string ⟨#[114]⟩,.slice (some ⟨ga,0,none⟩) 3 3,.slice none 0 0,.slice A5 m5 c5]) rfl _ _ g4 _ _ _ _ rfl rfl rfl rfl HX.out.all Tryz.underlying29 rfl (by kernel_rfl)) rfl ?_;exact ⟨⟨_,A5,m5,c5,Ac,mc,cq,_,Aw,mw,cw,rows,orows,cs,ws,rfl,(Bf.out.up30 (HS.out.up.trans HE.out.up)).inn,(C9.out.up30 (HS.out.up.trans HE.out.up)).inn,eu (oG.out.upB HE.out.up HO.out.2.2.2.2) Rn.out,pY Ex.out (Ez.out.up30 (HS.out.up.trans HE.out.up)).inn (Sn.out.up30 (HS.out.up.trans HE.out.up)).inn,eu (HOW.out.upW HE.out.up HO.out.2.2.2.2) hmw,Xg.out,Y4.out,qF.out,Ml.out,by rw[Rn.out];exact TH,by omega⟩,HE.out.bel⟩
end Go.Proofs.YtopjjlmfilgngaaGreatDoor
