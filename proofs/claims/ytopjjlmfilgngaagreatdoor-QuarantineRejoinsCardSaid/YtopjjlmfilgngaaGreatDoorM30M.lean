/-
  warehouselaw30.made. (Printed by gen_m30.py.)
-/
import Derived.Deep.CutRange
import Derived.Deep.DeepCutAuto
import Derived.Test.YtopjjlmfilgngaaGreatDoorGbc
namespace Go.Proofs.YtopjjlmfilgngaaGreatDoor
set_option maxHeartbeats 8000000
set_option maxRecDepth 100000
open Go.RowKit Go.Maps
set_option linter.unusedSimpArgs false
set_option linter.unusedVariables false
theorem nm30_cell {V:World}{d k:Nat}(h:dJ V d 9 [.string ⟨#[97]⟩,.string ⟨#[98]⟩,.string ⟨#[99]⟩,.string ⟨#[100]⟩,.string ⟨#[101]⟩])(hk:k<5):V.cell? ⟨d,k,none⟩=some (.string (nm30 k)):=by
 have hk:k=0\/k=1\/k=2\/k=3\/k=4:=by omega
 rcases hk with rfl|rfl|rfl|rfl|rfl <;> exact h.at _ rfl
theorem dJ.set14 {w:World}{g:Nat}{t:TypeId}{l:List Value}(h:dJ w g t l){a0 a1 a2 a3 a4 a5 a6 a7 a8 a9 a10 a11 a12 a13:Value}(hl:l.length=14):dJ ((((((((((((((w.setCell ⟨g,0,none⟩ a0).setCell ⟨g,1,none⟩ a1).setCell ⟨g,2,none⟩ a2).setCell ⟨g,3,none⟩ a3).setCell ⟨g,4,none⟩ a4).setCell ⟨g,5,none⟩ a5).setCell ⟨g,6,none⟩ a6).setCell ⟨g,7,none⟩ a7).setCell ⟨g,8,none⟩ a8).setCell ⟨g,9,none⟩ a9).setCell ⟨g,10,none⟩ a10).setCell ⟨g,11,none⟩ a11).setCell ⟨g,12,none⟩ a12).setCell ⟨g,13,none⟩ a13) g t [a0,a1,a2,a3,a4,a5,a6,a7,a8,a9,a10,a11,a12,a13]:=by
 have h1:=(((((((((((((h.set 0 a0).set 1 a1).set 2 a2).set 3 a3).set 4 a4).set 5 a5).set 6 a6).set 7 a7).set 8 a8).set 9 a9).set 10 a10).set 11 a11).set 12 a12).set 13 a13
 match l,hl with
 | [_,_,_,_,_,_,_,_,_,_,_,_,_,_],_=>exact h1
theorem grown14 (w:World)(g:Nat)(a0 a1 a2 a3 a4 a5 a6 a7 a8 a9 a10 a11 a12 a13:Value):w.grownBy ((((((((((((((w.setCell ⟨g,0,none⟩ a0).setCell ⟨g,1,none⟩ a1).setCell ⟨g,2,none⟩ a2).setCell ⟨g,3,none⟩ a3).setCell ⟨g,4,none⟩ a4).setCell ⟨g,5,none⟩ a5).setCell ⟨g,6,none⟩ a6).setCell ⟨g,7,none⟩ a7).setCell ⟨g,8,none⟩ a8).setCell ⟨g,9,none⟩ a9).setCell ⟨g,10,none⟩ a10).setCell ⟨g,11,none⟩ a11).setCell ⟨g,12,none⟩ a12).setCell ⟨g,13,none⟩ a13) (some g):=
 ((((((((((((mQ.trans mQ).trans mQ).trans mQ).trans mQ).trans mQ).trans mQ).trans mQ).trans mQ).trans mQ).trans mQ).trans mQ).trans mQ).trans mQ
theorem lN.own {B g:Nat}{a b c:World}(h:lN B a b)(hg:b.grownBy c (some g))(hl:a.heap.size<=g):lN B a c:=
 ⟨Nat.le_trans h.1 hg.size,λk h1 h2=>(hg.block k (Nat.lt_of_lt_of_le h2 h.1) λe=>by injection e with e;omega).trans (h.2 k h1 h2)⟩
def Is3 (s:ByteArray):Prop:=s=gW\/s=RP\/s=nV
theorem Is3.str {s:ByteArray}(h:Is3 s):Str s:=by
 rcases h with rfl|rfl|rfl <;> (unfold Str;decide)
theorem pick14 {V:World}{B d d0 d1 d2 q:Nat}(hd:dJ V d 43 [.slice (some ⟨d0,0,none⟩) 1 1,.slice (some ⟨d1,0,none⟩) 1 1,.slice (some ⟨d2,0,none⟩) 1 1])(h0:B<=d0/\dJ V d0 9 [.string gW])(h1:B<=d1/\dJ V d1 9 [.string RP])(h2:B<=d2/\dJ V d2 9 [.string nV])(hq:q<3):
  ∃e s,V.cell? ⟨d,q,none⟩=some (.slice (some ⟨e,0,none⟩) 1 1)/\B<=e/\dJ V e 9 [.string s]/\Is3 s:=by
 have hq:q=0\/q=1\/q=2:=by omega
 rcases hq with rfl|rfl|rfl
 ·exact ⟨d0,gW,hd.at 0 rfl,h0.1,h0.2,.inl rfl⟩
 ·exact ⟨d1,RP,hd.at 1 rfl,h1.1,h1.2,.inr (.inl rfl)⟩
 ·exact ⟨d2,nV,hd.at 2 rfl,h2.1,h2.2,.inr (.inr rfl)⟩
theorem nm30_new {V0:World}{g Bo:Nat}{s:ByteArray}(hs:Str s)(hg:V0.heap.size=g)(hB:Bo<=g):Sl (V0.alloc (.cells #[.string s] 9)) (BS Bo (λ_=>False) [9,89] (V0.alloc (.cells #[.string s] 9))) (some ⟨g,0,none⟩) 1 1 [s]:=by
 subst hg;exact sl_names (xs:=[s]) (dJ.made _ _ _) hB rfl (by decide) (by simpa using hs)
theorem l30_new {V0:World}{g Bo:Nat}(hg:V0.heap.size=g)(hB:Bo<=g):Sl (V0.alloc (.cells (VP.flatMap Node.cells).toArray 89)) (BS Bo (λ_=>False) [9,89] (V0.alloc (.cells (VP.flatMap Node.cells).toArray 89))) (some ⟨g,0,none⟩) 3 3 VP:=by
 subst hg;exact sl_l30 (dJ.made _ _ _) hB
theorem Ck30.mk {Bo k g:Nat}{V:World}(cc:Chk){A':Option Addr}{n' c':Nat}{bX:Option Addr}{n'' c'':Nat}{A3:Option Addr}{n3 c3:Nat}(h1:nG cc)(h2:cc.name=nm30 k)(h2b:Str cc.table)(h3:dJ V g 48 (aR cc A' n' c' bX n'' c'' A3 n3 c3))(h4:CkL Bo V A' n' c' bX n'' c'' A3 n3 c3 cc):Ck30 Bo k V g:=⟨cc,A',n',c',bX,n'',c'',A3,n3,c3,h1,h2,h2b,h3,h4⟩
theorem good30 {k:Nat}{p:Int}(hp:p=0\/p=1):(∀s,Is3 s-> ∀x:Int,x=0\/x=1->nG (kP (nm30 k) nR x [s] ⟨#[]⟩ [] 0 [] p))/\nG (kP (nm30 k) nR 2 [nV] ⟨#[]⟩ [] 3 [] p)/\nG (kP (nm30 k) nR 3 [gW] nO [gW] 0 [] p)/\nG (kP (nm30 k) nR 4 [] ⟨#[]⟩ [] 0 VP p):=by
 refine ⟨λs hs x hx=>⟨p,hp,?_⟩,⟨p,hp,?_⟩,⟨p,hp,?_⟩,⟨p,hp,?_⟩⟩
 ·rcases hs with rfl|rfl|rfl <;> rcases hx with rfl|rfl <;> simp[tQ,kP]
 ·simp[tQ,kP]
 ·simp[tQ,kP]
 ·simp[tQ,kP]
theorem four30 (wc:World): ∃V4,V4=(((wc.alloc (.cells #[.string ⟨#[110,97,109,101]⟩] 9)).alloc (.cells #[.string ⟨#[105,100]⟩] 9)).alloc (.cells #[.string ⟨#[118]⟩] 9)).alloc (.cells #[.slice (some ⟨wc.heap.size,0,none⟩) 1 1,.slice (some ⟨wc.heap.size+1,0,none⟩) 1 1,.slice (some ⟨wc.heap.size+1+1,0,none⟩) 1 1] 43)/\Below wc.heap.size wc V4/\dJ V4 wc.heap.size 9 [.string gW]/\dJ V4 (wc.heap.size+1) 9 [.string RP]/\dJ V4 (wc.heap.size+1+1) 9 [.string nV]/\dJ V4 (wc.heap.size+1+1+1) 43 [.slice (some ⟨wc.heap.size,0,none⟩) 1 1,.slice (some ⟨wc.heap.size+1,0,none⟩) 1 1,.slice (some ⟨wc.heap.size+1+1,0,none⟩) 1 1]:=by
 refine ⟨_,rfl,aa below_alloc2 below_alloc2,(dJ.made wc _ _).below (aa below_alloc2 ae),?_,?_,?_⟩
 ·have h:=dJ.made (wc.alloc (.cells #[.string ⟨#[110,97,109,101]⟩] 9)) #[.string ⟨#[105,100]⟩] 9;rw[World.size_alloc]at h;exact h.below below_alloc2
 ·have h:=dJ.made ((wc.alloc (.cells #[.string ⟨#[110,97,109,101]⟩] 9)).alloc (.cells #[.string ⟨#[105,100]⟩] 9)) #[.string ⟨#[118]⟩] 9;rw[World.size_alloc,World.size_alloc]at h;exact h.below ae
 ·have h:=dJ.made (((wc.alloc (.cells #[.string ⟨#[110,97,109,101]⟩] 9)).alloc (.cells #[.string ⟨#[105,100]⟩] 9)).alloc (.cells #[.string ⟨#[118]⟩] 9)) #[.slice (some ⟨wc.heap.size,0,none⟩) 1 1,.slice (some ⟨wc.heap.size+1,0,none⟩) 1 1,.slice (some ⟨wc.heap.size+1+1,0,none⟩) 1 1] 43;rw[World.size_alloc,World.size_alloc,World.size_alloc]at h;exact h
theorem step_wanted30 {c:Prop}[Decidable c]{p q:Prop}(hc:c)(h:p):if c then p else q:=by rw[if_pos hc];exact h
theorem src_at2 {V:World}{g e:Nat}{a b:Value}(h:V.heap[g]?=some (.cells #[a,b] e (0,0))):Src V 2 (some ⟨g,0,none⟩) 1 [a,b]:=
 ⟨rfl,λ_=>⟨g,0,rfl,λj u hu=>by
  rw[Nat.zero_add,cell_of_row V g j _ e (0,0) h];simpa using hu⟩⟩
theorem Sl.at0 {α:Type}[Rep α]{w:World}{S:Nat->Prop}{A:Option Addr}{n c:Nat}{xs:List α}(h:Sl w S A n c xs)(hn:0<n): ∃b o,A=some ⟨b,o,none⟩:=by
 obtain ⟨b,o,e,_⟩:=h.2.2.2.2 hn;exact ⟨b,o,e⟩
theorem sl_row30 {V:World}{S:Nat->Prop}{b5 o5 n c:Nat}{xs:List Ent}(h:Sl V S (some ⟨b5,o5,none⟩) n c xs){q:Nat}(hq:q<n): ∃Ax nx cx,∃row:List Val,V.cell? ⟨b5,o5+q*2,none⟩=some (.slice Ax nx cx)/\Sl V S Ax nx cx row:=by
 obtain ⟨b,o,e,_,hi⟩:=h.2.2.2.2 (by omega);injection e with e;injection e with e1 e2;subst e1 e2;obtain ⟨cs,⟨Ax,nx,cx,rfl,h1,_⟩,h2⟩:=hi q (by rw[h.1];exact hq);exact ⟨Ax,nx,cx,_,h2 0 (by simp),h1⟩
theorem OL.upO {α:Type}[Rep α]{e:TypeId}{B Bo:Nat}{T:List TypeId}{V V':World}{v:Value}{xs:List α}(h:OL e Bo (λz=>B<=z) T V v xs){r:Option Nat}(hg:V.grownBy V' r)(hr: ∀k,r=some k->k<B/\k<Bo):OL e Bo (λz=>B<=z) T V' v xs:=
 h.grown hg λk hk=>⟨λq=>by have:=hr k hk;have:=(h.ty q).1;omega,λq=>by
  have h1:=hr k hk;rcases q with ⟨q,_⟩|⟨q,_⟩ <;> omega⟩
theorem OL.upW {α:Type}[Rep α]{e:TypeId}{B Bo:Nat}{V V':World}{v:Value}{xs:List α}(h:OL e Bo (λz=>B<=z) [] V v xs)(hu:lN B V V')(hB:B<=Bo):OL e Bo (λz=>B<=z) [] V' v xs:=
 h.kept (λk hk=>by
  rcases hk with (⟨h1,h2⟩|⟨_,t,ht,_⟩)|hk
  ·exact hu.2 k h1 (Nat.lt_of_lt_of_le h2 h.base)
  ·cases ht
  ·exact hu.2 k (Nat.le_trans hB (h.ty hk).1) (h.ty hk).2.lt) hu.1
def depsMq26:Nat->List Nat
 | 4=>[3]
 | 5=>[2,4]
 | 6=>[1,5]
 | 7=>[6]
 | 8=>[7]
 | 10=>[9]
 | 13=>[12]
 | 14=>[13]
 | 15=>[11,14,5]
 | 16=>[10,15]
 | 17=>[16]
 | 18=>[17]
 | 19=>[8,18]
 | 20=>[19]
 | 21=>[0,20,15]
 | 22=>[21]
 | _=>[]
def lkMq26:Nat->Nat
 | 21=>0
 | 22=>21
 |j=>j
def UMq26:Nat->List Nat
 | 20=>[21]
 | _=>[]
def FMq26 (B s0:Nat)(g5 gg b5 o5 m5 c5 bc oc mc cq:Nat)(wv:Value)(ws:List Wvr):Nat->Value->Value->World->Prop
 | 0,v,u,V=>v=wv
 | 1,v,u,V=>v=.slice (some ⟨bc,oc,none⟩) mc cq
 | 2,v,u,V=>v=.pointer (some ⟨gg,0,none⟩)
 | 3,v,u,V=>v=.slice (some ⟨bc,oc,none⟩) mc cq
 | 4,v,u,V=>v=.int .i64 (mc:Int)
 | 5,v,u,V=> ∃q:Nat,v=.int .i64 (q:Int)/\q<mc
 | 6,v,u,V=> ∃q:Nat,v=.pointer (some ⟨bc,oc+q*14,none⟩)/\q<mc
 | 7,v,u,V=> ∃q:Nat,v=.pointer (some ⟨bc,oc+q*14,none⟩)/\q<mc
 | 8,v,u,V=> ∃s,v=.string s/\Str s
 | 9,v,u,V=>v=.pointer (some ⟨g5,3,none⟩)
 | 10,v,u,V=>v=.slice (some ⟨b5,o5,none⟩) m5 c5
 | 11,v,u,V=>v=.pointer (some ⟨gg,0,none⟩)
 | 12,v,u,V=>v=.pointer (some ⟨g5,3,none⟩)
 | 13,v,u,V=>v=.slice (some ⟨b5,o5,none⟩) m5 c5
 | 14,v,u,V=>v=.int .i64 (m5:Int)
 | 15,v,u,V=> ∃q:Nat,v=.int .i64 (q:Int)/\q<m5
 | 16,v,u,V=> ∃q:Nat,v=.pointer (some ⟨b5,o5+q*2,none⟩)/\q<m5
 | 17,v,u,V=> ∃q:Nat,v=.pointer (some ⟨b5,o5+q*2,none⟩)/\q<m5
 | 18,v,u,V=> ∃Ax nx cx,∃row:List Val,v=.slice Ax nx cx/\(Sl V (λz=>B<=z/\z<s0) Ax nx cx row)/\s0<=V.heap.size
 | 19,v,u,V=> ∃s Ax nx cx,∃row:List Val,v=.agg #[.string s,.slice Ax nx cx]/\(Sl V (λz=>B<=z/\z<s0) Ax nx cx row)/\s0<=V.heap.size/\Str s
 | 20,v,u,V=> ∃g s Ax nx cx,∃row:List Val,v=.slice (some ⟨g,0,none⟩) 1 1/\B<=g/\V.heap[g]?=some (.cells #[.string s,.slice Ax nx cx] 33 (0,0))/\(Sl V (λz=>B<=z/\z<s0) Ax nx cx row)/\s0<=V.heap.size/\Str s
 | 21,v,u,V=> ∃x:Wvr,B<=s0/\OL 33 s0 (λz=>B<=z) [] V v (ws++[x])
 | 22,v,u,V=> ∃x:Wvr,B<=s0/\OL 33 s0 (λz=>B<=z) [] V v (ws++[x])
 | _,_,_,_=>True
theorem lkMq26_ok: ∀j,lkMq26 j=j\/lkMq26 j∈depsMq26 j:=λj=>by
 match j with
 | 21=>exact .inr (by simp[lkMq26,depsMq26])
 | 22=>exact .inr (by simp[lkMq26,depsMq26])
 |j=>first|exact .inl rfl|(unfold lkMq26;split <;> first|exact .inl rfl|exact .inr (by simp[depsMq26]))
theorem FMq26_st (B s0:Nat)(g5 gg b5 o5 m5 c5 bc oc mc cq:Nat)(wv:Value)(ws:List Wvr): ∀j v u V V',(lN B) V V'->FMq26 B s0 g5 gg b5 o5 m5 c5 bc oc mc cq wv ws j v u V->FMq26 B s0 g5 gg b5 o5 m5 c5 bc oc mc cq wv ws j v u V':=λj v u V V' h q=>by
 match j,q with
 | 0,q=>exact q
 | 1,q=>exact q
 | 2,q=>exact q
 | 3,q=>exact q
 | 4,q=>exact q
 | 5,q=>exact q
 | 6,q=>exact q
 | 7,q=>exact q
 | 8,q=>exact q
 | 9,q=>exact q
 | 10,q=>exact q
 | 11,q=>exact q
 | 12,q=>exact q
 | 13,q=>exact q
 | 14,q=>exact q
 | 15,q=>exact q
 | 16,q=>exact q
 | 17,q=>exact q
 | 18,q=>exact (by obtain ⟨Ax,nx,cx,row,e,h3,h4⟩:=q;exact ⟨Ax,nx,cx,row,e,Sl.keep (λz hz=>h.2 z hz.1 (Nat.lt_of_lt_of_le hz.2 h4)) h3,Nat.le_trans h4 h.1⟩)
 | 19,q=>exact (by obtain ⟨s,Ax,nx,cx,row,e,h3,h4,h5⟩:=q;exact ⟨s,Ax,nx,cx,row,e,Sl.keep (λz hz=>h.2 z hz.1 (Nat.lt_of_lt_of_le hz.2 h4)) h3,Nat.le_trans h4 h.1,h5⟩)
 | 20,q=>exact (by obtain ⟨g,s,Ax,nx,cx,row,e,h1,h2,h3,h4,h5⟩:=q;exact ⟨g,s,Ax,nx,cx,row,e,h1,(h.2 g h1 (Array.getElem?_eq_some_iff.1 h2).1).trans h2,Sl.keep (λz hz=>h.2 z hz.1 (Nat.lt_of_lt_of_le hz.2 h4)) h3,Nat.le_trans h4 h.1,h5⟩)
 | 21,q=>exact (by obtain ⟨x,h1,h2⟩:=q;exact ⟨x,h1,h2.upW h h1⟩)
 | 22,q=>exact (by obtain ⟨x,h1,h2⟩:=q;exact ⟨x,h1,h2.upW h h1⟩)
 |(n+23),_=>exact trivial
theorem FMq26_off (B s0:Nat)(g5 gg b5 o5 m5 c5 bc oc mc cq:Nat)(wv:Value)(ws:List Wvr): ∀j v u V V',j≠20->j≠21->j≠22->V.heap.size<=V'.heap.size->(∀z,B<=z->z<V.heap.size->z<s0->V'.heap[z]?=V.heap[z]?)->FMq26 B s0 g5 gg b5 o5 m5 c5 bc oc mc cq wv ws j v u V->FMq26 B s0 g5 gg b5 o5 m5 c5 bc oc mc cq wv ws j v u V':=λj v u V V' h20 h21 h22 hsz h q=>by
 match j,q,h20,h21,h22 with
 | 0,q,h20,h21,h22=>exact q
 | 1,q,h20,h21,h22=>exact q
 | 2,q,h20,h21,h22=>exact q
 | 3,q,h20,h21,h22=>exact q
 | 4,q,h20,h21,h22=>exact q
 | 5,q,h20,h21,h22=>exact q
 | 6,q,h20,h21,h22=>exact q
 | 7,q,h20,h21,h22=>exact q
 | 8,q,h20,h21,h22=>exact q
 | 9,q,h20,h21,h22=>exact q
 | 10,q,h20,h21,h22=>exact q
 | 11,q,h20,h21,h22=>exact q
 | 12,q,h20,h21,h22=>exact q
 | 13,q,h20,h21,h22=>exact q
 | 14,q,h20,h21,h22=>exact q
 | 15,q,h20,h21,h22=>exact q
 | 16,q,h20,h21,h22=>exact q
 | 17,q,h20,h21,h22=>exact q
 | 18,q,h20,h21,h22=>exact (by obtain ⟨Ax,nx,cx,row,e,h3,h4⟩:=q;exact ⟨Ax,nx,cx,row,e,Sl.keep (λz hz=>h z hz.1 (Nat.lt_of_lt_of_le hz.2 h4) hz.2) h3,Nat.le_trans h4 hsz⟩)
 | 19,q,h20,h21,h22=>exact (by obtain ⟨s,Ax,nx,cx,row,e,h3,h4,h5⟩:=q;exact ⟨s,Ax,nx,cx,row,e,Sl.keep (λz hz=>h z hz.1 (Nat.lt_of_lt_of_le hz.2 h4) hz.2) h3,Nat.le_trans h4 hsz,h5⟩)
 | 20,q,h20,h21,h22=>exact absurd rfl h20
 | 21,q,h20,h21,h22=>exact absurd rfl h21
 | 22,q,h20,h21,h22=>exact absurd rfl h22
 |(n+23),_,_,_,_=>exact trivial
structure E30 (w Wr:World) (B:Nat) (V:World):Prop where
 up:lN B Wr V
 bel:Below w.heap.size w V
theorem E30.below {w Wr V V':World}{B:Nat}(h:E30 w Wr B V)(hb:Below V.heap.size V V'):E30 w Wr B V':=⟨h.up.trans (lN.below hb),aa h.bel hb⟩
theorem grown4 (w:World)(g:Nat)(a0 a1 a2 a3:Value):w.grownBy ((((w.setCell ⟨g,0,none⟩ a0).setCell ⟨g,1,none⟩ a1).setCell ⟨g,2,none⟩ a2).setCell ⟨g,3,none⟩ a3) (some g):=((mQ.trans mQ).trans mQ).trans mQ
theorem E30.set4 {w Wr V:World}{B g:Nat}(h:E30 w Wr B V)(hB:g<B)(hw:w.heap.size<=g){a0 a1 a2 a3:Value}:E30 w Wr B ((((V.setCell ⟨g,0,none⟩ a0).setCell ⟨g,1,none⟩ a1).setCell ⟨g,2,none⟩ a2).setCell ⟨g,3,none⟩ a3):=
 ⟨h.up.trans (lN.grown (grown4 _ _ _ _ _ _) hB),gH h.bel (grown4 _ _ _ _ _ _) h.bel.size hw⟩
theorem results_c1t3 {P:Program}{fn:Func}{p q1 q2 q3:Tmp}{ty:TypeId}(h:fn.results= #[.cell p ty,.tmp q1,.tmp q2,.tmp q3])(tmps:Array Value)(w:World)(g:Nat)(cs:List Value)(d:TypeDesc)(u1 u2 u3:Value)(hp:tmps.getD p undef=.pointer (some ⟨g,0,none⟩))(h1:tmps.getD q1 undef=u1)(h2:tmps.getD q2 undef=u2)(h3:tmps.getD q3 undef=u3)(hc: ∀j v,cs[j]?=some v->w.cell? ⟨g,j,none⟩=some v)(hu:P.underlying ty=some d)(hd:(match d with| .struct _| .array _ _=>true| _=>false)=true)(hi:(P.info? ty).map (·.size)=some cs.length):
  (results fn tmps).run P w=.ok (.tuple #[.agg cs.toArray,u1,u2,u3]) w:=by
 have h9:=bC (P:=P) (fn:={fn with results:= #[.cell p ty]}) (p:=p) (ty:=ty) rfl tmps w g cs d hp hc hu hd hi;have hp':tmps[p]?.getD undef=.pointer (some ⟨g,0,none⟩):=by simpa using hp
 have hl:(loadVar ty ⟨g,0,none⟩).run P w=.ok (.agg cs.toArray) w:=by
  simp only[results]at h9;simpa[hp',asAddr,Sem.run_bind,Result.andThen] using h9
 have e1:tmps[q1]?.getD undef=u1:=by simpa using h1
 have e2:tmps[q2]?.getD undef=u2:=by simpa using h2
 have e3:tmps[q3]?.getD undef=u3:=by simpa using h3
 simp[results,h,hp',e1,e2,e3,asAddr,hl]
theorem cells_quarsR {V:World}{B1 B3:Option Addr}{g m d:Nat}{rows:List Ent}(hb:dJ V g 29 [.string ⟨#[111]⟩,.slice B1 3 3,.slice none 0 0,.slice B3 m d])(h1:In V B1 3 3 fA)(h3:In V B3 m d rows):In V (some ⟨g,0,none⟩) 1 1 [pV rows []]:=
 fC hb (Cells.one ⟨_,_,_,_,_,_,_,_,_,rfl,h1,In.nil_,h3,mq.2.2.2.2.2.2.2.2.2.2⟩) rfl (by decide)
theorem OL.upB {α:Type}[Rep α]{e:TypeId}{B B':Nat}{T:List TypeId}{V V':World}{v:Value}{xs:List α}(h:OL e B' (λ_=>False) T V v xs)(hu:lN B V V')(hB:B<=B'):OL e B' (λ_=>False) T V' v xs:=
 h.up30 ⟨hu.1,λk h1 h2=>hu.2 k (Nat.le_trans hB h1) h2⟩
theorem nodup30 {ks:List Nat}(h:ks.Nodup)(h5: ∀j∈ks,j<5):(ks.map nm30).Nodup:=by
 induction ks with
 |nil=>simp
 |cons a l ih=>
  rw[List.nodup_cons]at h;rw[List.map_cons,List.nodup_cons];refine ⟨λhm=>?_,ih h.2 λj hj=>h5 j (by simp[hj])⟩;obtain ⟨b,hb,e⟩:=List.mem_map.1 hm;have:=nm30_inj (h5 b (by simp[hb])) (h5 a (by simp)) e;subst this;exact h.1 hb
def depsMq27:Nat->List Nat
 | 3=>[2]
 | 5=>[0]
 | 6=>[1]
 | 7=>[3]
 | 8=>[4]
 | _=>[]
def lkMq27:Nat->Nat
 |j=>j
def UMq27:Nat->List Nat
 | _=>[]
def FMq27 (B:Nat)(lv wv:Value)(rr oo:List Value):Nat->Value->Value->World->Prop
 | 0,v,u,V=>v=.agg rr.toArray
 | 1,v,u,V=>v=lv
 | 2,v,u,V=>v=.agg oo.toArray
 | 3,v,u,V=> ∃d,v=.slice (some ⟨d,0,none⟩) 1 1/\B<=d/\dJ V d 29 oo
 | 4,v,u,V=>v=wv
 | 5,v,u,V=>True
 | 6,v,u,V=>v=lv
 | 7,v,u,V=> ∃d,v=.slice (some ⟨d,0,none⟩) 1 1/\B<=d/\dJ V d 29 oo
 | 8,v,u,V=>v=wv
 | _,_,_,_=>True
theorem lkMq27_ok: ∀j,lkMq27 j=j\/lkMq27 j∈depsMq27 j:=λj=>by
 exact .inl rfl
theorem FMq27_st (B:Nat)(lv wv:Value)(rr oo:List Value): ∀j v u V V',(lN B) V V'->FMq27 B lv wv rr oo j v u V->FMq27 B lv wv rr oo j v u V':=λj v u V V' h q=>by
 match j,q with
 | 0,q=>exact q
 | 1,q=>exact q
 | 2,q=>exact q
 | 3,q=>exact (by obtain ⟨d,e,h1,h2⟩:=q;exact ⟨d,e,h1,h2.up30 h1 h⟩)
 | 4,q=>exact q
 | 5,q=>exact q
 | 6,q=>exact q
 | 7,q=>exact (by obtain ⟨d,e,h1,h2⟩:=q;exact ⟨d,e,h1,h2.up30 h1 h⟩)
 | 8,q=>exact q
 |(n+9),_=>exact trivial
def depsMq8:Nat->List Nat
 | 2=>[0,1]
 | 3=>[2]
 | 5=>[4]
 | 7=>[6,5]
 | 8=>[7]
 | 9=>[3,5,8]
 | 11=>[10,9]
 | _=>[]
def lkMq8:Nat->Nat
 | 11=>10
 |j=>j
def UMq8:Nat->List Nat
 | 10=>[11]
 | _=>[]
def FMq8 (B k gh:Nat):Nat->Value->Value->World->Prop
 | 0,v,u,V=> ∃d,v=.slice (some ⟨d,0,none⟩) 5 5/\B<=d/\dJ V d 9 [.string ⟨#[97]⟩,.string ⟨#[98]⟩,.string ⟨#[99]⟩,.string ⟨#[100]⟩,.string ⟨#[101]⟩]
 | 1,v,u,V=>v=.int .i64 (k:Int)
 | 2,v,u,V=> ∃d,v=.pointer (some ⟨d,k,none⟩)/\B<=d/\dJ V d 9 [.string ⟨#[97]⟩,.string ⟨#[98]⟩,.string ⟨#[99]⟩,.string ⟨#[100]⟩,.string ⟨#[101]⟩]
 | 3,v,u,V=>v=.string (nm30 k)
 | 4,v,u,V=>v=.pointer (some ⟨gh,0,none⟩)
 | 5,v,u,V=> ∃x:Int,v=.int .i64 x/\0<=x/\x<6
 | 6,v,u,V=>v=.pointer (some ⟨gh,0,none⟩)
 | 7,v,u,V=> ∃x:Int,v=.int .i64 x/\0<=x/\x<4
 | 8,v,u,V=> ∃p:Int,v=.int .i64 p/\(p=0\/p=1)
 | 9,v,u,V=> ∃x p:Int,v=.agg #[.string (nm30 k),.string ⟨#[114]⟩,.int .i64 x,.slice none 0 0,.string ⟨#[]⟩,.slice none 0 0,.int .i64 0,.int .i64 0,.slice none 0 0,.int .i64 0,.int .i64 0,.int .i64 0,.int .i64 0,.int .i64 p]/\0<=x/\x<6/\(p=0\/p=1)
 | 10,v,u,V=> ∃g,v=.pointer (some ⟨g,0,none⟩)/\B<=g/\dJ V g 48 [.string ⟨#[]⟩,.string ⟨#[]⟩,.int .i64 0,.slice none 0 0,.string ⟨#[]⟩,.slice none 0 0,.int .i64 0,.int .i64 0,.slice none 0 0,.int .i64 0,.int .i64 0,.int .i64 0,.int .i64 0,.int .i64 0]
 | 11,v,u,V=> ∃g,u=.pointer (some ⟨g,0,none⟩)/\B<=g/\ ∃x p:Int,0<=x/\x<6/\(p=0\/p=1)/\dJ V g 48 [.string (nm30 k),.string ⟨#[114]⟩,.int .i64 x,.slice none 0 0,.string ⟨#[]⟩,.slice none 0 0,.int .i64 0,.int .i64 0,.slice none 0 0,.int .i64 0,.int .i64 0,.int .i64 0,.int .i64 0,.int .i64 p]
 | _,_,_,_=>True
theorem lkMq8_ok: ∀j,lkMq8 j=j\/lkMq8 j∈depsMq8 j:=λj=>by
 match j with
 | 11=>exact .inr (by simp[lkMq8,depsMq8])
 |j=>first|exact .inl rfl|(unfold lkMq8;split <;> first|exact .inl rfl|exact .inr (by simp[depsMq8]))
theorem FMq8_st (B k gh:Nat): ∀j v u V V',(lN B) V V'->FMq8 B k gh j v u V->FMq8 B k gh j v u V':=λj v u V V' h q=>by
 match j,q with
 | 0,q=>exact (by obtain ⟨d,e,h1,h2⟩:=q;exact ⟨d,e,h1,h2.up30 h1 h⟩)
 | 1,q=>exact q
 | 2,q=>exact (by obtain ⟨d,e,h1,h2⟩:=q;exact ⟨d,e,h1,h2.up30 h1 h⟩)
 | 3,q=>exact q
 | 4,q=>exact q
 | 5,q=>exact q
 | 6,q=>exact q
 | 7,q=>exact q
 | 8,q=>exact q
 | 9,q=>exact q
 | 10,q=>exact (by obtain ⟨d,e,h1,h2⟩:=q;exact ⟨d,e,h1,h2.up30 h1 h⟩)
 | 11,q=>exact (by obtain ⟨g,e,h1,x,p,a1,a2,a3,h2⟩:=q;exact ⟨g,e,h1,x,p,a1,a2,a3,h2.up30 h1 h⟩)
 |(n+12),_=>exact trivial
theorem FMq8_off (B k gh:Nat): ∀j v u V V',j≠10->j≠11->(∀d,B<=d->d<V.heap.size->bi V 9 d->V'.heap[d]?=V.heap[d]?)->FMq8 B k gh j v u V->FMq8 B k gh j v u V':=λj v u V V' h10 h11 h q=>by
 match j,q,h10,h11 with
 | 0,q,h10,h11=>exact (by obtain ⟨d,e,h1,h2⟩:=q;exact ⟨d,e,h1,(h d h1 h2.lt h2.ty).trans h2⟩)
 | 1,q,h10,h11=>exact q
 | 2,q,h10,h11=>exact (by obtain ⟨d,e,h1,h2⟩:=q;exact ⟨d,e,h1,(h d h1 h2.lt h2.ty).trans h2⟩)
 | 3,q,h10,h11=>exact q
 | 4,q,h10,h11=>exact q
 | 5,q,h10,h11=>exact q
 | 6,q,h10,h11=>exact q
 | 7,q,h10,h11=>exact q
 | 8,q,h10,h11=>exact q
 | 9,q,h10,h11=>exact q
 | 10,q,h10,h11=>exact absurd rfl h10
 | 11,q,h10,h11=>exact absurd rfl h11
 |(n+12),_,_,_=>exact trivial
def Made30 (w':World)(e:Ending):Prop:= ∃(A1:Option Addr) (A5:Option Addr) (n5 c5:Nat) (Ac:Option Addr) (nc cc:Nat) (Ao:Option Addr) (Aw:Option Addr) (nw cw:Nat) (rows orows:List Ent) (cs:List Chk) (ws:List Wvr),
 e=.returned (.tuple #[.agg #[.string ⟨#[114]⟩,.slice A1 3 3,.slice none 0 0,.slice A5 n5 c5],.slice Ac nc cc,.slice Ao 1 1,.slice Aw nw cw])/\
 In w' A1 3 3 fA/\In w' A5 n5 c5 rows/\In w' Ac nc cc cs/\In w' Ao 1 1 [pV orows []]/\In w' Aw nw cw ws/\nH fA rows/\nH fA orows/\(∀c∈cs,nG c)/\(cs.map Chk.name).Nodup/\cs.length<=4/\ws.length<=4
theorem made30_any (w:World)(A:Option Addr)(n c:Nat)(l:List Int)(hl:In w A n c l)(hn:n<=200)(A2:Option Addr)(n2 c2:Nat)(l2:List Int)(hl2:In w A2 n2 c2 l2)(hn2:n2<=60):
  Calls Tryz.prog 13 #[.slice A n c,.slice A2 n2 c2] w λe w'=>Made30 w' e/\Below w.heap.size w w':=by
 have HL:=hide hl;have HM:=hide hl2;have h63:=hl.le;have h64:=hl2.le;clear hl hl2;go_enter Tryz.func13,Tryz.ntmps13;go_upto_region 2 with (fail);obtain ⟨sw,lZ⟩: ∃W,W=w.alloc (.cells #[.string ⟨#[]⟩,.slice none 0 0,.slice none 0 0,.slice none 0 0] 29):=⟨_,rfl⟩;obtain ⟨g4,hg4⟩: ∃q,q=w.heap.size:=⟨_,rfl⟩;have K4:Hid (dJ sw g4 29 [.string ⟨#[]⟩,.slice none 0 0,.slice none 0 0,.slice none 0 0]):=hide (by rw[lZ,hg4];exact dJ.made _ _ _);have NU:Hid (sw.heap.size=g4+1):=hide (by rw[lZ,hg4];exact World.size_alloc _ _);have nU:Hid (Below w.heap.size w sw):=hide (by rw[lZ];exact ae);have KD:Hid (w.heap.size<=g4):=hide (by rw[hg4];exact Nat.le_refl _);rw[<-lZ,<-hg4];have Qj:=hide hg4;clear lZ hg4;have xY:=hide nU.out;obtain ⟨Iu,yJ⟩: ∃W,W=sw.alloc (.cells #[.slice A n c,.int .i64 0] 64):=⟨_,rfl⟩;obtain ⟨gg,hgg⟩: ∃q,q=sw.heap.size:=⟨_,rfl⟩;have NG:Hid (dJ Iu gg 64 [.slice A n c,.int .i64 0]):=hide (by rw[yJ,hgg];exact dJ.made _ _ _);have Q3:Hid (Iu.heap.size=gg+1):=hide (by rw[yJ,hgg];exact World.size_alloc _ _);have QT:Hid (Below sw.heap.size sw Iu):=hide (by rw[yJ];exact ae);have Er:Hid (w.heap.size<=gg):=hide (by rw[hgg];exact xY.out.size);have NEg4_gg:Hid (¬g4=gg):=hide (by have h:=K4.out.lt;omega);have hqgg:gg=g4+1:=by rw[hgg];exact NU.out
 rw[<-yJ,<-hqgg];clear hqgg;have Uo:=hide hgg;clear yJ hgg;have K4:=hide (K4.out.below QT.out);have JZ:=hide (aa xY.out QT.out);obtain ⟨Aj,yK⟩: ∃W,W=Iu.alloc (.cells #[.slice A2 n2 c2,.int .i64 0] 64):=⟨_,rfl⟩;obtain ⟨gh,hgh⟩: ∃q,q=Iu.heap.size:=⟨_,rfl⟩;have NH:Hid (dJ Aj gh 64 [.slice A2 n2 c2,.int .i64 0]):=hide (by rw[yK,hgh];exact dJ.made _ _ _);have Vp:Hid (Aj.heap.size=gh+1):=hide (by rw[yK,hgh];exact World.size_alloc _ _);have Nt:Hid (Below Iu.heap.size Iu Aj):=hide (by rw[yK];exact ae);have Ho:Hid (w.heap.size<=gh):=hide (by rw[hgh];exact JZ.out.size);have NEg4_gh:Hid (¬g4=gh):=hide (by have h:=K4.out.lt;omega);have Il:Hid (¬gg=gh):=hide (by have h:=NG.out.lt;omega);have OT:gh=gg+1:=by rw[hgh];exact Q3.out
 rw[<-yK,<-OT];clear OT;have Uq:=hide hgh;clear yK hgh;have K4:=hide (K4.out.below Nt.out);have NG:=hide (NG.out.below Nt.out);have Nu:=hide (aa JZ.out Nt.out);have hbw:=Nu.out;have hn1:=uj NG.out HL.out hbw Er.out (by omega);have hn2:=uj NH.out HM.out hbw Ho.out (by omega);have hk4:=K4.out;have hgg:=NG.out.lt;have hgh:=NH.out.lt;have HORD:Hid (w.heap.size<=g4/\g4<gg/\gg<gh):=hide (by have h1:=KD.out;have h2:=Uo.out;have h3:=Uq.out;have h4:=NU.out;have h5:=Q3.out;omega);obtain ⟨Wb,Oc⟩: ∃W,W=Aj:=⟨_,rfl⟩;rw[<-Oc]at hbw hn1 hn2 hk4 hgg hgh⊢;clear Oc;have jr:=hide hbw;have CB:=hide hn1;have gF:=hide hn2;have HK4:=hide hk4;obtain ⟨B,hB⟩: ∃b,b=Wb.heap.size:=⟨_,rfl⟩;rw[<-hB]at hgg hgh;have qg:Hid (B<=Wb.heap.size):=hide (by rw[hB];exact Nat.le_refl _);clear hbw hn1 hn2 hB hk4;clear K4 NG NH;obtain ⟨ga,hga⟩: ∃q,q=Wb.heap.size:=⟨_,rfl⟩;have hbga:B<=ga:=by rw[hga];exact qg.out
 go_wp2_with fail;refine (fB _).mono ?_;rintro e w4 ⟨⟨rfl,hc1⟩,hb4⟩;have Ny:=hide hb4;clear hb4;rw[<-hga]at hc1⊢;have hcga:=y8 hc1 hbga;clear hc1 hga;have xP:=hide hcga;clear hcga;obtain ⟨gb,hgb⟩: ∃q,q=w4.heap.size:=⟨_,rfl⟩;have hbgb:B<=gb:=by rw[hgb];exact Nat.le_trans qg.out Ny.out.size
 go_wp2_with fail;refine (fB _).mono ?_;rintro e w5 ⟨⟨rfl,hc1⟩,hb5⟩;have xP:=hide (xP.out.below hb5);have LHC5:=hide (aa Ny.out hb5);clear hb5;rw[<-hgb]at hc1⊢;have hcgb:=y8 hc1 hbgb;clear hc1 hgb;have Ep:=hide hcgb;clear hcgb;have Ka:=Nat.le_trans qg.out LHC5.out.size;have hn1:=CB.out.below LHC5.out;have hn2:=gF.out.below LHC5.out;have hk4:=HK4.out.below LHC5.out;have hbw:=aa jr.out LHC5.out;go_wp2_with fail;refine (qM _ gg A n c l 0 hn1 _ 3 3 (Ep.out.off (by omega)) 9 (by omega) (by omega)).mono ?_;rintro e W3 ⟨⟨A5,c5,rows,W3j,rfl,hi5,TE,PO⟩,hg5⟩;have ME:=hi5.low Ka;have OI:=hn2.other HM.out hbw (by have:=HORD.out;omega) (by have:=HORD.out;omega) (by have:=HORD.out;omega) hg5;have hk6:=hk4.grown hg5 (λe=>by injection e with e;have:=HORD.out;omega);have FH:=gH hbw hg5 hbw.size (by have:=HORD.out;omega);have CB:=hide PO;have gF:=hide OI;have HK4:=hide hk6;have jr:=hide FH;have U2:=hide TE;obtain ⟨m5,FP⟩: ∃m,rows.length=m:=⟨_,rfl⟩;rw[FP]at ME⊢;have Me:=hide FP;clear hi5 PO OI hk4 hk6 hbw FH TE FP hn1 hn2 Ka;have xP:=hide (xP.out.grown hg5 (λz e=>by injection e with e;omega));have Ep:=hide (Ep.out.grown hg5 (λz e=>by injection e with e;omega));have CL:Hid (B<=W3.heap.size):=hide (Nat.le_trans (Nat.le_trans qg.out LHC5.out.size) hg5.size);have Ev:=hide ME;clear ME;clear hg5;go_upto_region 3 with (fail);obtain ⟨Au,yM⟩: ∃W,W=W3.alloc (.cells #[.string ⟨#[114]⟩,.slice (some ⟨ga,0,none⟩) 3 3,.slice none 0 0,.slice A5 m5 c5] 29):=⟨_,rfl⟩;obtain ⟨g5,hg5⟩: ∃q,q=W3.heap.size:=⟨_,rfl⟩;have KR:Hid (dJ Au g5 29 [.string ⟨#[114]⟩,.slice (some ⟨ga,0,none⟩) 3 3,.slice none 0 0,.slice A5 m5 c5]):=hide (by rw[yM,hg5];exact dJ.made _ _ _);have NW:Hid (Au.heap.size=g5+1):=hide (by rw[yM,hg5];exact World.size_alloc _ _);have lH:Hid (Below W3.heap.size W3 Au):=hide (by rw[yM];exact ae);have KF:Hid (W3.heap.size<=g5):=hide (by rw[hg5];exact Nat.le_refl _);rw[<-yM,<-hg5];have Qk:=hide hg5;clear yM hg5;have xP:=hide (xP.out.below lH.out);have Ep:=hide (Ep.out.below lH.out);have Ev:=hide (Ev.out.below lH.out);have vF:=hide lH.out;obtain ⟨gc,hgc⟩: ∃q,q=Au.heap.size:=⟨_,rfl⟩;have hbgc:B<=gc:=by rw[hgc];exact Nat.le_trans CL.out vF.out.size
 go_wp2_with fail;refine (fB _).mono ?_;rintro e w7 ⟨⟨rfl,hc1⟩,j5⟩;have KR:=hide (KR.out.below j5);have xP:=hide (xP.out.below j5);have Ep:=hide (Ep.out.below j5);have Ev:=hide (Ev.out.below j5);have Ey:=hide (aa vF.out j5);clear j5;rw[<-hgc]at hc1⊢;have hcgc:=y8 hc1 hbgc;clear hc1 hgc;have Ef:=hide hcgc;clear hcgc;obtain ⟨gd,hgd⟩: ∃q,q=w7.heap.size:=⟨_,rfl⟩;have hbgd:B<=gd:=by rw[hgd];exact Nat.le_trans CL.out Ey.out.size
 go_wp2_with fail;refine (fB _).mono ?_;rintro e w8 ⟨⟨rfl,hc1⟩,Bd⟩;have KR:=hide (KR.out.below Bd);have xP:=hide (xP.out.below Bd);have Ep:=hide (Ep.out.below Bd);have Ev:=hide (Ev.out.below Bd);have Ef:=hide (Ef.out.below Bd);have LHC8:=hide (aa Ey.out Bd);clear Bd;rw[<-hgd]at hc1⊢;have hcgd:=y8 hc1 hbgd;clear hc1 hgd;have JN:=hide hcgd;clear hcgd;have Ka:=Nat.le_trans CL.out LHC8.out.size;have hn1:=CB.out.below LHC8.out;have hn2:=gF.out.below LHC8.out;have hk4:=HK4.out.below LHC8.out;have hbw:=aa jr.out LHC8.out;go_wp2_with fail;refine (qM _ gg A n c l W3j hn1 _ 3 3 (JN.out.off (by omega)) 4 (by omega) (by omega)).mono ?_;rintro e W4 ⟨⟨A6,c6,orows,W4j,rfl,hi5,TE,PO⟩,hg5⟩;have ME:=hi5.low Ka;have OI:=hn2.other HM.out hbw (by have:=HORD.out;omega) (by have:=HORD.out;omega) (by have:=HORD.out;omega) hg5;have hk6:=hk4.grown hg5 (λe=>by injection e with e;have:=HORD.out;omega);have FH:=gH hbw hg5 hbw.size (by have:=HORD.out;omega);have CB:=hide PO;have gF:=hide OI;have HK4:=hide hk6;have jr:=hide FH;have Sz:=hide TE;obtain ⟨m6,FP⟩: ∃m,orows.length=m:=⟨_,rfl⟩;rw[FP]at ME⊢;have Wy:=hide FP;clear hi5 PO OI hk4 hk6 hbw FH TE FP hn1 hn2 Ka;have KR:=hide (KR.out.grown hg5 (λe=>by injection e with e;have h1:=KF.out;have h2:=CL.out;omega));have xP:=hide (xP.out.grown hg5 (λz e=>by injection e with e;omega));have Ep:=hide (Ep.out.grown hg5 (λz e=>by injection e with e;omega));have Ev:=hide (Ev.out.grown hg5 (λz e=>by injection e with e;omega));have Ef:=hide (Ef.out.grown hg5 (λz e=>by injection e with e;omega));have JN:=hide (JN.out.grown hg5 (λz e=>by injection e with e;omega));have K3:Hid (B<=W4.heap.size):=hide (Nat.le_trans (Nat.le_trans CL.out LHC8.out.size) hg5.size);have Mg:=hide ME;clear ME;clear hg5;go_upto_region 4 with (fail);obtain ⟨Iw,yO⟩: ∃W,W=W4.alloc (.cells #[.string ⟨#[111]⟩,.slice (some ⟨gc,0,none⟩) 3 3,.slice none 0 0,.slice A6 m6 c6] 29):=⟨_,rfl⟩;obtain ⟨g6,om⟩: ∃q,q=W4.heap.size:=⟨_,rfl⟩;have KO:Hid (dJ Iw g6 29 [.string ⟨#[111]⟩,.slice (some ⟨gc,0,none⟩) 3 3,.slice none 0 0,.slice A6 m6 c6]):=hide (by rw[yO,om];exact dJ.made _ _ _);have Q0:Hid (Iw.heap.size=g6+1):=hide (by rw[yO,om];exact World.size_alloc _ _);have oP:Hid (Below W4.heap.size W4 Iw):=hide (by rw[yO];exact ae);have M4:Hid (W4.heap.size<=g6):=hide (by rw[om];exact Nat.le_refl _);have BR:Hid (¬g5=g6):=hide (by have h:=KR.out.lt;omega);rw[<-yO,<-om];have M0:=hide om;clear yO om;have KR:=hide (KR.out.below oP.out);have xP:=hide (xP.out.below oP.out);have Ev:=hide (Ev.out.below oP.out);have Ef:=hide (Ef.out.below oP.out);have Mg:=hide (Mg.out.below oP.out);have xZ:=hide oP.out;have hn1:=CB.out.below xZ.out;have hn2:=gF.out.below xZ.out;have hk4:=HK4.out.below xZ.out;have hbw:=aa jr.out xZ.out;have hG5:=Nat.le_trans CL.out KF.out;have hG6:=Nat.le_trans K3.out M4.out;have hBo:=Nat.le_trans K3.out xZ.out.size;have Ow:=xP.out;have hcc:=Ef.out;have ME:=Ev.out;have MF:=Mg.out;have hkr:=KR.out;have hko:=KO.out;obtain ⟨Wo,Rp⟩: ∃W,W=Iw:=⟨_,rfl⟩;rw[<-Rp]at hn1 hn2 hk4 hbw hBo Ow hcc ME MF hkr hko⊢;clear Rp;have Si:=hide hkr;have Sg:=hide hko;have xP:=hide Ow;have Ef:=hide hcc;have Ev:=hide ME;have Mg:=hide MF;have Uv:=hide hG5;have Uw:=hide hG6;have HO:=hide (show Ord30 w Wo B g4 gg gh from ⟨HORD.out.1,HORD.out.2.1,HORD.out.2.2,hgh,hBo⟩);have U0:=hide (show S30 w Wo B g4 gg gh A n c l A2 n2 c2 l2 Wo from ⟨⟨_,hn1⟩,⟨_,hn2⟩,hk4,⟨Nat.le_refl _,λ_ _ _=>rfl⟩,hbw⟩);clear hn1 hn2 hk4 hbw hG5 hG6 hBo Ow hcc ME MF hkr hko;clear CB gF HK4 jr;obtain ⟨j0,hj0⟩:=U0.out.nh;go_upto_region 5 with (fail);go_wp2_with fail;refine (eH _ gh A2 n2 c2 l2 _ hj0 5 (by omega)).mono ?_;rintro e W5 ⟨⟨x5,i5,rfl,hx0,hx1,PO⟩,hg5⟩;have hs5:=U0.out.nexth HO.out PO hg5;obtain ⟨k5,rfl⟩: ∃k:Nat,x5=k:=⟨x5.toNat,by omega⟩;have hk5:k5<5:=by have:=hx1 (by omega);omega
 have HS5:=hide hs5;clear hx0 hx1 PO hg5 hs5 hj0;go_wp2;go_loopw [12,13] (λlv kv wr=> ∃(k:Nat) (cs:List Chk) (ks:List Nat),k<5/\kv=.int .i64 k/\cs.length+k<5/\(∀c∈cs,nG c)/\cs.map Chk.name=ks.map nm30/\ks.Nodup/\(∀j∈ks,k<j/\j<5)/\OL 48 Wo.heap.size (λ_=>False) [9,89] wr lv cs/\S30 w Wo B g4 gg gh A n c l A2 n2 c2 l2 wr) (λ_ kv _=>(RowKit.intOf kv).toNat)
 case atStart=>exact ⟨k5,[],[],hk5,rfl,by simpa using hk5,by simp,rfl,by simp,by simp,OL.nil HS5.out.up.1,HS5.out⟩
 case round=>
  obtain ⟨k,cs,ks,hk,rfl,hcl,hgood,hnm,hnd,hks,hol,hs⟩:=hrel;have HGOOD:=hide hgood;have Pf:=hide hnm;have Hq:=hide hnd;have HKS:=hide hks;have BP:=hide hol;have HS:=hide hs;clear hgood hnm hnd hks hol hs;by_cases hlt:0<k
  ·have k0:(0:Int)<(k:Int):=by omega
   have k1:(0:Int)<=(k:Int):=by omega
   have k2:(k:Int)<5:=by omega
   obtain ⟨wo,rfl⟩: ∃W,W=wr:=⟨_,rfl⟩;go_upto_region 8 with (fail);have HGH:=hide (show gh<Wo.heap.size/\gh<wo.heap.size by have h1:=HO.out;have h2:=HS.out.up.1;obtain ⟨_,_,_,_,_⟩:=h1;omega);go_cut [14] from 35 to 88 (λs14 wx=> ∃g,s14=.pointer (some ⟨g,0,none⟩)/\wo.heap.size<=g/\(∃x p:Int,0<=x/\x<6/\(p=0\/p=1)/\dJ wx g 48 [.string (nm30 k),.string ⟨#[114]⟩,.int .i64 x,.slice none 0 0,.string ⟨#[]⟩,.slice none 0 0,.int .i64 0,.int .i64 0,.slice none 0 0,.int .i64 0,.int .i64 0,.int .i64 0,.int .i64 0,.int .i64 p])/\S30 w Wo B g4 gg gh A n c l A2 n2 c2 l2 wx/\lN Wo.heap.size wo wx)
   case first=>
    refine wp_region_flow (by kernel_rfl) depsMq8 (by kernel_rfl) (lN wo.heap.size) (λvs=>⟨#[.slice A n c,.slice A2 n2 c2,undef,undef,.pointer (some ⟨g4,0,none⟩),.slice none 0 0,.slice none 0 0,.slice none 0 0,.pointer (some ⟨gg,0,none⟩),.pointer (some ⟨gh,0,none⟩),.pointer (some ⟨g5,0,none⟩),.pointer (some ⟨g6,0,none⟩),u12,.int .i64 ↑k,(vs.getD 10 (.bool false)),undef,undef,.slice A n c,.agg #[.slice A n c,.int .i64 0],.pointer (some ⟨gg,0,none⟩),.slice A2 n2 c2,.agg #[.slice A2 n2 c2,.int .i64 0],.pointer (some ⟨gh,0,none⟩),.slice (some ⟨ga,0,none⟩) 3 3,.slice (some ⟨gb,0,none⟩) 3 3,.pointer (some ⟨gg,0,none⟩),.slice A5 m5 c5,.agg #[.string ⟨#[114]⟩,.slice (some ⟨ga,0,none⟩) 3 3,.slice none 0 0,.slice A5 m5 c5],.slice (some ⟨gc,0,none⟩) 3 3,.slice (some ⟨gd,0,none⟩) 3 3,.pointer (some ⟨gg,0,none⟩),.slice A6 m6 c6,.agg #[.string ⟨#[111]⟩,.slice (some ⟨gc,0,none⟩) 3 3,.slice none 0 0,.slice A6 m6 c6],.pointer (some ⟨gh,0,none⟩),.int .i64 ↑k5,.int .i64 ↑k,.bool true,u37,u38,(vs.getD 0 (.bool false)),(vs.getD 1 (.bool false)),(vs.getD 2 (.bool false)),(vs.getD 3 (.bool false)),(vs.getD 4 (.bool false)),(vs.getD 5 (.bool false)),(vs.getD 6 (.bool false)),(vs.getD 7 (.bool false)),(vs.getD 8 (.bool false)),(vs.getD 9 (.bool false)),u49,u50,u51,u52,u53,u54,u55,u56,u57,u58,u59,u60,u61,u62,u63,u64,u65,u66,u67,u68,u69,u70,u71,u72,u73,u74,u75,u76,u77,u78,u79,u80,u81,u82,u83,u84,u85,u86,u87,u88,undef,undef,undef,undef,undef,undef,undef,undef,undef,undef,undef,undef,undef,undef,undef,undef,undef,undef,undef,undef,undef,undef,undef,undef,undef,undef,undef,undef,undef,undef,undef,undef,undef,undef,undef,undef,undef,undef,undef,undef,undef,undef,undef,undef],[]⟩) 12 (by decide) (λL V=>S30 w Wo B g4 gg gh A n c l A2 n2 c2 l2 V/\lN Wo.heap.size wo V) lkMq8 UMq8 (FMq8 wo.heap.size k gh) (λ_ _=>True) lkMq8_ok (FMq8_st wo.heap.size k gh) [_,_,_,_,_,_,_,_,_,_,_,.bool false] rfl rfl (λ_=>trivial) (⟨HS.out.below (Below.refl _ _).drew,lN.below (Below.refl _ _).drew⟩) ?_ ?_
    ·intro L i vs V hi hvl hL hd hG hF Rh;obtain ⟨v0,WP,rfl,hv0⟩:=vs_cons hvl;obtain ⟨v1,vs1,rfl,hv1⟩:=vs_cons hv0;obtain ⟨v2,vs2,rfl,hv2⟩:=vs_cons hv1;obtain ⟨v3,vs3,rfl,hv3⟩:=vs_cons hv2;obtain ⟨v4,vs4,rfl,hv4⟩:=vs_cons hv3;obtain ⟨v5,vs5,rfl,hv5⟩:=vs_cons hv4;obtain ⟨v6,vs6,rfl,hv6⟩:=vs_cons hv5;obtain ⟨v7,vs7,rfl,hv7⟩:=vs_cons hv6;obtain ⟨v8,vs8,rfl,hv8⟩:=vs_cons hv7;obtain ⟨v9,vs9,rfl,hv9⟩:=vs_cons hv8;obtain ⟨v10,vs10,rfl,hv10⟩:=vs_cons hv9;obtain ⟨v11,vs11,rfl,hv11⟩:=vs_cons hv10;obtain rfl:=vs_nil hv11;clear hvl hv0 hv1 hv2 hv3 hv4 hv5 hv6 hv7 hv8 hv9 hv10 hv11;have hi:i<12:=hi;have HG:=hide hG;have HF:=hide hF;have HD:=hide hd;have Hr:=hide hL;have UB:=hide Rh;clear hG hF hd hL Rh;obtain rfl|rfl|rfl|rfl|rfl|rfl|rfl|rfl|rfl|rfl|rfl|rfl:i=0\/i=1\/i=2\/i=3\/i=4\/i=5\/i=6\/i=7\/i=8\/i=9\/i=10\/i=11:=by omega
     ·refine wpOp_step rfl (λK1 hK=>?_);have HK:=hide hK;clear hK;go_simp;exact HK.out _ _ ⟨_,rfl,⟨_,rfl,HG.out.2.1,dJ.made _ _ _⟩,⟨HG.out.1.below ae,HG.out.2.trans (lN.below ae)⟩,.inl (lN.below ae)⟩
     ·refine wpOp_step rfl (λK1 hK=>?_);have HK:=hide hK;clear hK;go_simp;exact HK.out _ _ ⟨_,rfl,rfl,⟨HG.out.1,HG.out.2⟩,.inl (lN.below (Below.refl _ _))⟩
     ·obtain ⟨d,rfl,hd,hb⟩: ∃d,v0=.slice (some ⟨d,0,none⟩) 5 5/\wo.heap.size<=d/\dJ V d 9 [.string ⟨#[97]⟩,.string ⟨#[98]⟩,.string ⟨#[99]⟩,.string ⟨#[100]⟩,.string ⟨#[101]⟩]:=(HF.out 0 (HD.out 0 (by simp[depsMq8]))).2 (λ_ h=>by cases h);obtain rfl:v1=.int .i64 (k:Int):=(HF.out 1 (HD.out 1 (by simp[depsMq8]))).2 (λ_ h=>by cases h);have HB0:=hide hb;clear hb;refine wpOp_step rfl (λK1 hK=>?_);have HK:=hide hK;clear hK;go_simp;exact HK.out _ _ ⟨_,rfl,⟨_,rfl,hd,HB0.out⟩,⟨HG.out.1,HG.out.2⟩,.inl (lN.below (Below.refl _ _))⟩
     ·obtain ⟨d,rfl,hd,hb⟩: ∃d,v2=.pointer (some ⟨d,k,none⟩)/\wo.heap.size<=d/\dJ V d 9 [.string ⟨#[97]⟩,.string ⟨#[98]⟩,.string ⟨#[99]⟩,.string ⟨#[100]⟩,.string ⟨#[101]⟩]:=(HF.out 2 (HD.out 2 (by simp[depsMq8]))).2 (λ_ h=>by cases h);have cz:=nm30_cell (k:=k) hb (by omega);clear hb;refine wpOp_step rfl (λK1 hK=>?_);have HK:=hide hK;clear hK;go_simp;exact HK.out _ _ ⟨_,rfl,rfl,⟨HG.out.1,HG.out.2⟩,.inl (lN.below (Below.refl _ _))⟩
     ·refine wpOp_step rfl (λK1 hK=>?_);have HK:=hide hK;clear hK;go_simp;exact HK.out _ _ ⟨_,rfl,rfl,⟨HG.out.1,HG.out.2⟩,.inl (lN.below (Below.refl _ _))⟩
     ·obtain rfl:v4=.pointer (some ⟨gh,0,none⟩):=(HF.out 4 (HD.out 4 (by simp[depsMq8]))).2 (λ_ h=>by cases h);obtain ⟨j1,hj1⟩:=HG.out.1.nh;have HJ1:=hide hj1;clear hj1;refine wpOp_step rfl (λK1 hK=>?_);have HK:=hide hK;clear hK;go_simp;go_at_call 32;refine (eH _ gh A2 n2 c2 l2 _ HJ1.out 6 (by omega)).mono ?_;rintro e w1 ⟨⟨x1,i1,rfl,hx0,hx1,hn1⟩,hg1⟩;have hx1:=hx1 (by omega);have HN9:=hide hn1;have O9:=hide hg1;clear hn1 hg1;go_wp2_with fail;exact HK.out _ _ ⟨_,rfl,⟨_,rfl,hx0,hx1⟩,⟨HG.out.1.nexth HO.out HN9.out O9.out,HG.out.2.trans (lN.grown O9.out HGH.out.1)⟩,.inl (lN.grown O9.out HGH.out.2)⟩
     ·refine wpOp_step rfl (λK1 hK=>?_);have HK:=hide hK;clear hK;go_simp;exact HK.out _ _ ⟨_,rfl,rfl,⟨HG.out.1,HG.out.2⟩,.inl (lN.below (Below.refl _ _))⟩
     ·obtain rfl:v6=.pointer (some ⟨gh,0,none⟩):=(HF.out 6 (HD.out 6 (by simp[depsMq8]))).2 (λ_ h=>by cases h);obtain ⟨j1,hj1⟩:=HG.out.1.nh;have HJ1:=hide hj1;clear hj1;refine wpOp_step rfl (λK1 hK=>?_);have HK:=hide hK;clear hK;go_simp;go_at_call 32;refine (eH _ gh A2 n2 c2 l2 _ HJ1.out 4 (by omega)).mono ?_;rintro e w1 ⟨⟨x1,i1,rfl,hx0,hx1,hn1⟩,hg1⟩;have hx1:=hx1 (by omega);have HN9:=hide hn1;have O9:=hide hg1;clear hn1 hg1;go_wp2_with fail;exact HK.out _ _ ⟨_,rfl,⟨_,rfl,hx0,hx1⟩,⟨HG.out.1.nexth HO.out HN9.out O9.out,HG.out.2.trans (lN.grown O9.out HGH.out.1)⟩,.inl (lN.grown O9.out HGH.out.2)⟩
     ·obtain ⟨x,rfl,hx0,hx1⟩: ∃x:Int,v7=.int .i64 x/\0<=x/\x<4:=(HF.out 7 (HD.out 7 (by simp[depsMq8]))).2 (λ_ h=>by cases h);have wq:IntKind.i64.wrap (x.tdiv 2)=x / 2:=by rw[Int.tdiv_eq_ediv_of_nonneg hx0];exact IntWalk.i64_in _ (by omega)
      have hx2:x / 2=0\/x / 2=1:=by omega
      refine wpOp_step rfl (λK1 hK=>?_);have HK:=hide hK;clear hK;go_simp;exact HK.out _ _ ⟨_,rfl,⟨_,rfl,hx2⟩,⟨HG.out.1,HG.out.2⟩,.inl (lN.below (Below.refl _ _))⟩
     ·obtain rfl:v3=.string (nm30 k):=(HF.out 3 (HD.out 3 (by simp[depsMq8]))).2 (λ_ h=>by cases h);obtain ⟨x,rfl,hx0,hx1⟩: ∃x:Int,v5=.int .i64 x/\0<=x/\x<6:=(HF.out 5 (HD.out 5 (by simp[depsMq8]))).2 (λ_ h=>by cases h);obtain ⟨p,rfl,hp⟩: ∃p:Int,v8=.int .i64 p/\(p=0\/p=1):=(HF.out 8 (HD.out 8 (by simp[depsMq8]))).2 (λ_ h=>by cases h);refine wpOp_step rfl (λK1 hK=>?_);have HK:=hide hK;clear hK;go_simp;exact HK.out _ _ ⟨_,rfl,⟨_,_,rfl,hx0,hx1,hp⟩,⟨HG.out.1,HG.out.2⟩,.inl (lN.below (Below.refl _ _))⟩
     ·refine wpOp_step rfl (λK1 hK=>?_);have HK:=hide hK;clear hK;go_simp;exact HK.out _ _ ⟨_,rfl,⟨_,rfl,HG.out.2.1,dJ.made _ _ _⟩,⟨HG.out.1.below ae,HG.out.2.trans (lN.below ae)⟩,.inl (lN.below ae)⟩
     ·obtain ⟨g,rfl,hg,hb⟩: ∃g,v10=.pointer (some ⟨g,0,none⟩)/\wo.heap.size<=g/\dJ V g 48 [.string ⟨#[]⟩,.string ⟨#[]⟩,.int .i64 0,.slice none 0 0,.string ⟨#[]⟩,.slice none 0 0,.int .i64 0,.int .i64 0,.slice none 0 0,.int .i64 0,.int .i64 0,.int .i64 0,.int .i64 0,.int .i64 0]:=(HF.out 10 (HD.out 10 (by simp[depsMq8]))).2 (λu h=>by simp only[UMq8,List.mem_cons,List.not_mem_nil,or_false]at h;subst h;exact Hr.out);obtain ⟨x,p,rfl,hx0,hx1,hp⟩: ∃x p:Int,v9=.agg #[.string (nm30 k),.string ⟨#[114]⟩,.int .i64 x,.slice none 0 0,.string ⟨#[]⟩,.slice none 0 0,.int .i64 0,.int .i64 0,.slice none 0 0,.int .i64 0,.int .i64 0,.int .i64 0,.int .i64 0,.int .i64 p]/\0<=x/\x<6/\(p=0\/p=1):=(HF.out 9 (HD.out 9 (by simp[depsMq8]))).2 (λ_ h=>by cases h);have HB0:=hide hb;obtain ⟨hlt,k0,k1,k2,k3,k4,k5_,k6,k7,k8,k9,k10,k11,k12,k13⟩:=hb.ats14;have f0:=hb.fz 0;have f1:=hb.fz 1;have f2:=hb.fz 2;have f3:=hb.fz 3;have f4:=hb.fz 4;have f5:=hb.fz 5;have f6:=hb.fz 6;have f7:=hb.fz 7;have f8:=hb.fz 8;have f9:=hb.fz 9;have f10:=hb.fz 10;have f11:=hb.fz 11;have f12:=hb.fz 12;have f13:=hb.fz 13;clear hb;refine wpOp_step rfl (λK1 hK=>?_);have HK:=hide hK;clear hK;go_simp;have HB1:=hide (HB0.out.set14 rfl (a0:=.string (nm30 k)) (a1:=.string ⟨#[114]⟩) (a2:=.int .i64 x) (a3:=.slice none 0 0) (a4:=.string ⟨#[]⟩) (a5:=.slice none 0 0) (a6:=.int .i64 0) (a7:=.int .i64 0) (a8:=.slice none 0 0) (a9:=.int .i64 0) (a10:=.int .i64 0) (a11:=.int .i64 0) (a12:=.int .i64 0) (a13:=.int .i64 p));have HGW:=hide (grown14 V g (.string (nm30 k)) (.string ⟨#[114]⟩) (.int .i64 x) (.slice none 0 0) (.string ⟨#[]⟩) (.slice none 0 0) (.int .i64 0) (.int .i64 0) (.slice none 0 0) (.int .i64 0) (.int .i64 0) (.int .i64 0) (.int .i64 0) (.int .i64 p));exact HK.out _ _ ⟨.bool false,rfl,⟨g,rfl,hg,x,p,hx0,hx1,hp,HB1.out⟩,⟨HG.out.1.own HO.out HGW.out (λq e=>by injection e with e;have:=HGH.out.2;have h1:=HG.out.2.1;have:=HS.out.up.1;omega),HG.out.2.own HGW.out hg⟩,.inr (λj hj _ hu q=>FMq8_off _ _ _ j _ _ _ _ (λe=>by subst e;exact (hu 11 (by simp[UMq8])).1 rfl) hj (λd hd hl ht=>HGW.out.block d hl (λe=>by injection e with e;subst e;exact bi.ne HB0.out.ty ht (by decide) rfl)) q)⟩
    ·intro L vs V hL hvl hG hF;obtain ⟨v0,WP,rfl,hv0⟩:=vs_cons hvl;obtain ⟨v1,vs1,rfl,hv1⟩:=vs_cons hv0;obtain ⟨v2,vs2,rfl,hv2⟩:=vs_cons hv1;obtain ⟨v3,vs3,rfl,hv3⟩:=vs_cons hv2;obtain ⟨v4,vs4,rfl,hv4⟩:=vs_cons hv3;obtain ⟨v5,vs5,rfl,hv5⟩:=vs_cons hv4;obtain ⟨v6,vs6,rfl,hv6⟩:=vs_cons hv5;obtain ⟨v7,vs7,rfl,hv7⟩:=vs_cons hv6;obtain ⟨v8,vs8,rfl,hv8⟩:=vs_cons hv7;obtain ⟨v9,vs9,rfl,hv9⟩:=vs_cons hv8;obtain ⟨v10,vs10,rfl,hv10⟩:=vs_cons hv9;obtain ⟨v11,vs11,rfl,hv11⟩:=vs_cons hv10;obtain rfl:=vs_nil hv11;clear hvl hv0 hv1 hv2 hv3 hv4 hv5 hv6 hv7 hv8 hv9 hv10 hv11;have HG:=hide hG;have HF:=hide hF;have HL:=hide hL;clear hG hF hL;obtain ⟨g,rfl,hg,hb⟩: ∃g,v10=.pointer (some ⟨g,0,none⟩)/\wo.heap.size<=g/\ ∃x p:Int,0<=x/\x<6/\(p=0\/p=1)/\dJ V g 48 [.string (nm30 k),.string ⟨#[114]⟩,.int .i64 x,.slice none 0 0,.string ⟨#[]⟩,.slice none 0 0,.int .i64 0,.int .i64 0,.slice none 0 0,.int .i64 0,.int .i64 0,.int .i64 0,.int .i64 0,.int .i64 p]:=HF.out 11 (by show 11<12;omega) rfl;go_wp2;go_meet
     case rel=>exact ⟨g,rfl,hg,hb,HG.out.1,HG.out.2⟩
   case rest=>
    obtain ⟨g,rfl,hg,⟨x,p,hx0,hx1,hp,hb⟩,hs,hu⟩:=hcut;have HB:=hide hb;have HSC:=hide hs;have QM:=hide hu;have HG:=hide hg;clear hb hs hu;go_step;go_step;go_cut [] from 35 to 88 (λwx=>Ck30 Wo.heap.size k wx g/\S30 w Wo B g4 gg gh A n c l A2 n2 c2 l2 wx/\lN Wo.heap.size wo wx)
    case first=>
     have QP:=hide (show Wo.heap.size<=wc.heap.size from HSC.out.up.1);have HGW:=HG;have HGO:=hide (show Wo.heap.size<=g from Nat.le_trans HS.out.up.1 hg);have M3:=hide (show gh<wc.heap.size from Nat.lt_of_lt_of_le HGH.out.1 HSC.out.up.1);have HGC2:=hide (show g<wc.heap.size from HB.out.lt);have HGG:=hide (show gh<g from Nat.lt_of_lt_of_le HGH.out.2 hg);obtain ⟨LTB,k0_,k1_,k2_,k3_,k4_,k5_,k6_,k7_,k8_,k9_,k10_,k11_,k12_,k13_⟩:=HB.out.ats14;have f0:=HB.out.fz 0;have f1:=HB.out.fz 1;have f2:=HB.out.fz 2;have f3:=HB.out.fz 3;have f4:=HB.out.fz 4;have f5:=HB.out.fz 5;have f6:=HB.out.fz 6;have f7:=HB.out.fz 7;have f8:=HB.out.fz 8;have f9:=HB.out.fz 9;have f10:=HB.out.fz 10;have f11:=HB.out.fz 11;have f12:=HB.out.fz 12;have f13:=HB.out.fz 13;obtain rfl|rfl|rfl|rfl|rfl|rfl:x=0\/x=1\/x=2\/x=3\/x=4\/x=5:=by omega
     ·go_wp2_with fail;obtain ⟨V4,hV4,hb4,b0,b1,b2,bd⟩:=four30 wc;rw[<-hV4];clear hV4 LTB k0_ k1_ k2_ k3_ k4_ k5_ k6_ k7_ k8_ k9_ k10_ k11_ k12_ k13_ f0 f1 f2 f3 f4 f5 f6 f7 f8 f9 f10 f11 f12 f13;have hs4:=HSC.out.below hb4;obtain ⟨j1,hj1⟩:=hs4.nh;refine (eH _ gh A2 n2 c2 l2 _ hj1 3 (by omega)).mono ?_;rintro e w1 ⟨⟨x1,i1,rfl,hx0,hx1,hn1⟩,hg1⟩;have HS5:=hide (hs4.nexth HO.out hn1 hg1);have HU5:=hide ((QM.out.trans (lN.below hb4)).trans (lN.grown hg1 HGH.out.1));have hbk:=(HB.out.below hb4).grown hg1 (λe=>by injection e with e;have:=HGG.out;omega);obtain ⟨q,rfl⟩: ∃q:Nat,x1=q:=⟨x1.toNat,by omega⟩;have hq:q<3:=by have:=hx1 (by omega);omega
      obtain ⟨e,s,hc,he,hbe,hs⟩:=pick14 (B:=wc.heap.size) (bd.grown hg1 (λe=>by injection e with e;have:=M3.out;omega)) ⟨Nat.le_refl _,b0.grown hg1 (λe=>by injection e with e;have:=M3.out;omega)⟩ ⟨by omega,b1.grown hg1 (λe=>by injection e with e;have:=M3.out;omega)⟩ ⟨by omega,b2.grown hg1 (λe=>by injection e with e;have:=M3.out;omega)⟩ hq;have hq1:(q:Int)<3:=by omega
      have hq2:(0:Int)<=(q:Int):=by omega
      have x3:=hbk.at 3 rfl;have xl:=hbk.lt;have xf:=hbk.fz 3;have Mc:=hide hbk;have zQ:=hide hbe;have HEE:=hide (show Wo.heap.size<=e from Nat.le_trans QP.out he);have dU:=hide (show e≠g by have:=HGC2.out;omega);clear hs4 hj1 hx0 hx1 hn1 hg1 hbk hbe he b0 b1 b2 bd hb4 hq;go_wp2_with fail;go_meet
      case rel=>exact ⟨Ck30.mk (kP (nm30 k) nR 0 [s] ⟨#[]⟩ [] 0 [] p) ((good30 hp).1 s hs 0 (by omega)) rfl mq.2.2.2.2.2.2.2.2.2.1 (Mc.out.set 3 _) ⟨sl_names (xs:=[s]) (zQ.out.far dU.out 3 _) HEE.out rfl (by decide) (by simpa using hs.str),sl_nil,sl_nil⟩,HS5.out.set HO.out HGO.out 3 _,HU5.out.set HG.out 3 _⟩
     ·go_wp2_with fail;obtain ⟨V4,hV4,hb4,b0,b1,b2,bd⟩:=four30 wc;rw[<-hV4];clear hV4 LTB k0_ k1_ k2_ k3_ k4_ k5_ k6_ k7_ k8_ k9_ k10_ k11_ k12_ k13_ f0 f1 f2 f3 f4 f5 f6 f7 f8 f9 f10 f11 f12 f13;have hs4:=HSC.out.below hb4;obtain ⟨j1,hj1⟩:=hs4.nh;refine (eH _ gh A2 n2 c2 l2 _ hj1 3 (by omega)).mono ?_;rintro e w1 ⟨⟨x1,i1,rfl,hx0,hx1,hn1⟩,hg1⟩;have HS5:=hide (hs4.nexth HO.out hn1 hg1);have HU5:=hide ((QM.out.trans (lN.below hb4)).trans (lN.grown hg1 HGH.out.1));have hbk:=(HB.out.below hb4).grown hg1 (λe=>by injection e with e;have:=HGG.out;omega);obtain ⟨q,rfl⟩: ∃q:Nat,x1=q:=⟨x1.toNat,by omega⟩;have hq:q<3:=by have:=hx1 (by omega);omega
      obtain ⟨e,s,hc,he,hbe,hs⟩:=pick14 (B:=wc.heap.size) (bd.grown hg1 (λe=>by injection e with e;have:=M3.out;omega)) ⟨Nat.le_refl _,b0.grown hg1 (λe=>by injection e with e;have:=M3.out;omega)⟩ ⟨by omega,b1.grown hg1 (λe=>by injection e with e;have:=M3.out;omega)⟩ ⟨by omega,b2.grown hg1 (λe=>by injection e with e;have:=M3.out;omega)⟩ hq;have hq1:(q:Int)<3:=by omega
      have hq2:(0:Int)<=(q:Int):=by omega
      have x3:=hbk.at 3 rfl;have xl:=hbk.lt;have xf:=hbk.fz 3;have Mc:=hide hbk;have zQ:=hide hbe;have HEE:=hide (show Wo.heap.size<=e from Nat.le_trans QP.out he);have dU:=hide (show e≠g by have:=HGC2.out;omega);clear hs4 hj1 hx0 hx1 hn1 hg1 hbk hbe he b0 b1 b2 bd hb4 hq;go_wp2_with fail;go_meet
      case rel=>exact ⟨Ck30.mk (kP (nm30 k) nR 1 [s] ⟨#[]⟩ [] 0 [] p) ((good30 hp).1 s hs 1 (by omega)) rfl mq.2.2.2.2.2.2.2.2.2.1 (Mc.out.set 3 _) ⟨sl_names (xs:=[s]) (zQ.out.far dU.out 3 _) HEE.out rfl (by decide) (by simpa using hs.str),sl_nil,sl_nil⟩,HS5.out.set HO.out HGO.out 3 _,HU5.out.set HG.out 3 _⟩
     ·go_wp2_with fail;go_meet
      case rel=>exact ⟨Ck30.mk (kP (nm30 k) nR 2 [nV] ⟨#[]⟩ [] 3 [] p) (good30 hp).2.1 rfl mq.2.2.2.2.2.2.2.2.2.1 (((HB.out.set 3 _).set 7 _).below ae) ⟨nm30_new (by unfold Str;decide) (by simp) QP.out,sl_nil,sl_nil⟩,((HSC.out.set HO.out HGO.out 3 _).set HO.out HGO.out 7 _).below ae,((QM.out.set HG.out 3 _).set HG.out 7 _).trans (lN.below ae)⟩
     ·go_wp2_with fail;go_meet
      case rel=>exact ⟨Ck30.mk (kP (nm30 k) nR 3 [gW] nO [gW] 0 [] p) (good30 hp).2.2.1 rfl mq.2.2.2.2.2.2.2.2.2.1 ((((HB.out.set 3 _).set 4 _).set 5 _).below below_alloc2) ⟨ru (nm30_new (by unfold Str;decide) (by simp) QP.out) (by simp;have:=QP.out;omega) ae,nm30_new (by unfold Str;decide) (by simp) (by have:=QP.out;omega),sl_nil⟩,(((HSC.out.set HO.out HGO.out 3 _).set HO.out HGO.out 4 _).set HO.out HGO.out 5 _).below below_alloc2,(((QM.out.set HG.out 3 _).set HG.out 4 _).set HG.out 5 _).trans (lN.below below_alloc2)⟩
     ·go_wp2_with fail;go_meet
      case rel=>exact ⟨Ck30.mk (kP (nm30 k) nR 4 [] ⟨#[]⟩ [] 0 VP p) (good30 hp).2.2.2 rfl mq.2.2.2.2.2.2.2.2.2.1 (((HB.out.set 2 _).set 8 _).below ae) ⟨sl_nil,sl_nil,l30_new (by simp) QP.out⟩,((HSC.out.set HO.out HGO.out 2 _).set HO.out HGO.out 8 _).below ae,((QM.out.set HG.out 2 _).set HG.out 8 _).trans (lN.below ae)⟩
     ·go_wp2_with fail;go_meet
      case rel=>exact ⟨Ck30.mk (kP (nm30 k) nR 4 [] ⟨#[]⟩ [] 0 VP p) (good30 hp).2.2.2 rfl mq.2.2.2.2.2.2.2.2.2.1 (((HB.out.set 2 _).set 8 _).below ae) ⟨sl_nil,sl_nil,l30_new (by simp) QP.out⟩,((HSC.out.set HO.out HGO.out 2 _).set HO.out HGO.out 8 _).below ae,((QM.out.set HG.out 2 _).set HG.out 8 _).trans (lN.below ae)⟩
    case rest=>
     obtain ⟨hck,hs1,hu1⟩:=hcut;obtain ⟨wd,rfl⟩: ∃W,W=wc:=⟨_,rfl⟩;have R7:=hide hck;have Sv:=hide hs1;have HU1:=hide hu1;clear hck hs1 hu1;go_step;go_step;go_cut [] from 35 to 88 (λwx=>Ck30 Wo.heap.size k wx g/\S30 w Wo B g4 gg gh A n c l A2 n2 c2 l2 wx/\lN Wo.heap.size wo wx)
     case first=>
      obtain ⟨j2,hj2⟩:=Sv.out.nh;go_wp2_with fail;refine (eH _ gh A2 n2 c2 l2 _ hj2 8 (by omega)).mono ?_;rintro e w2 ⟨⟨x2,i2,rfl,hx0,hx1,hn2⟩,hg2⟩;have HS2:=hide (Sv.out.nexth HO.out hn2 hg2);have HU2:=hide (HU1.out.trans (lN.grown hg2 HGH.out.1));have HCK2:=hide (R7.out.nexth Sv.out.up.1 hj2.blk.ty ⟨by decide,by decide⟩ (by have:=HGH.out.2;have:=HG.out;omega) hg2);clear hn2 hg2 hj2;obtain ⟨cc,A',n',c',bX,n'',c'',A3,n3,c3,h1,h2,h2b,h3,h4⟩:=HCK2.out;have y1:=h3.at 1 rfl;have yl:=h3.lt;have yf:=h3.fz 1;clear h1 h2 h2b h3 h4;by_cases hx:x2=0
      ·subst hx;go_wp2_with fail;all_goals (try (exfalso;go_light;simp_all;done));go_meet
       case rel=>exact ⟨HCK2.out.table HS2.out.up.1 ⟨#[111]⟩ mq.2.2.2.2.2.2.2.2.2.2,HS2.out.set HO.out (Nat.le_trans HS.out.up.1 HG.out) 1 _,HU2.out.set HG.out 1 _⟩
      ·have q1:(x2==0)=false:=by simpa using hx
       go_wp2_with fail;all_goals (try (exfalso;go_light;simp_all;done));go_meet
       case rel=>exact ⟨HCK2.out,HS2.out,HU2.out⟩
     case rest=>
      obtain ⟨hck,hs1,hu1⟩:=hcut;obtain ⟨we,rfl⟩: ∃W,W=wc:=⟨_,rfl⟩;obtain ⟨cc,A',n',c',bX,n'',c'',A3,n3,c3,h1,h2,h2b,h3,h4⟩:=hck;have KQ:=hide (BP.out.up30 hu1);have HS2:=hide hs1;have Nh:=hide (chk30_rd h4 h1 h2 h2b);have HH1:=hide h1;have HH2:=hide h2;have Ef:=hide (congrArg (λq=>cs.length+q) (Nat.succ_pred_eq_of_pos hlt));simp only[aR]at h3;obtain ⟨LTB,y0,y1,y2,y3,y4,y5,y6,y7,y8,y9,y10,y11,y12,y13⟩:=h3.ats14;have FL:cs.length+1<=maxLen:=by simp only[maxLen];omega
      have FM:(cs.length+1)*184<=140737488355328:=by omega
      have wk1:IntKind.i64.wrap ((k:Int)-1)=((k-1:Nat):Int):=by rw[show (k:Int)-1=((k-1:Nat):Int) by omega];exact IntWalk.i64_in _ (by omega)
      clear h1 h2 h2b h3 h4 hs1 hu1;go_wp2_with (at_builtin;refine bf _ rfl _ _ _ rfl elem_chk30 (by decide) we _ rfl KQ.out rfl rfl cc Nh.out FL FM ?_;intro v9 w9 vV fo xe pE);have Aa:=hide vV;have HS9:=hide (HS2.out.own HO.out xe (λq e=>(KQ.out.ty e).1));clear vV fo xe pE;go_wp2;all_goals (try (exfalso;go_light;simp_all;done));go_roundw
      case rel=>exact ⟨k-1,cs++[cc],ks++[k],by omega,rfl,by simp;omega,λc hc=>by rcases List.mem_append.1 hc with hc|hc;exact HGOOD.out c hc;rw[List.mem_singleton.1 hc];exact HH1.out,by simp[Pf.out,HH2.out],List.nodup_append.2 ⟨Hq.out,by simp,λa ha b hb=>by rw[List.mem_singleton.1 hb];have:=HKS.out a ha;omega⟩,λj hj=>by rcases List.mem_append.1 hj with hj|hj;exact ⟨by have:=HKS.out j hj;omega,(HKS.out j hj).2⟩;rw[List.mem_singleton.1 hj];exact ⟨by omega,hk⟩,Aa.out,HS9.out⟩
      case measure=>simp[RowKit.intOf];omega
  ·obtain rfl:k=0:=by omega
   obtain ⟨Ac,cq,rfl,hic⟩:=BP.out.inn;obtain ⟨mc,hmc⟩: ∃m,cs.length=m:=⟨_,rfl⟩;have hol:=BP.out;rw[hmc]at hic hol⊢;have hmc4:mc<=4:=by omega
   have HMC:=hide hmc;have HOLC:=hide hol;clear hic hol hmc BP;obtain ⟨wl,rfl⟩: ∃W,W=wr:=⟨_,rfl⟩;obtain ⟨j1,hj1⟩:=HS.out.ng;go_upto_region 23 with (fail);go_wp2_with fail;refine (eH _ gg A n c l _ hj1 4 (by omega)).mono ?_;rintro e W6 ⟨⟨x6,i6,rfl,hx0,hx1,OI⟩,om⟩;obtain ⟨k6,rfl⟩: ∃k:Nat,x6=k:=⟨x6.toNat,by omega⟩;have hk6:k6<4:=by have:=hx1 (by omega);omega
   have Nk:=hide (HS.out.nextg HO.out HM.out OI om);have HOL6:=hide (HOLC.out.up30 (lN.grown om (by obtain ⟨_,_,_,_,_⟩:=HO.out;omega)));clear hx0 hx1 OI om hj1 HS HOLC;go_wp2;go_loopw [15,16] (λwv kv wr=> ∃(k:Nat) (ws:List Wvr),k<4/\kv=.int .i64 k/\ws.length+k<4/\OL 33 Wo.heap.size (λz=>B<=z) [] wr wv ws/\OL 48 Wo.heap.size (λ_=>False) [9,89] wr (.slice Ac mc cq) cs/\S30 w Wo B g4 gg gh A n c l A2 n2 c2 l2 wr) (λ_ kv _=>(RowKit.intOf kv).toNat)
   case atStart=>exact ⟨k6,[],hk6,rfl,by simpa using hk6,OL.nil Nk.out.up.1,HOL6.out,Nk.out⟩
   case round=>
    obtain ⟨k,ws,hk,rfl,hwl,how,hol,hs⟩:=hrel;have HOW:=hide how;have BP:=hide hol;have HS:=hide hs;clear how hol hs;obtain ⟨LTR,r0,r1,r2,r3⟩:=(Si.out.up30 Uv.out HS.out.up).ats4;by_cases hlt:0<k
    ·have k0:(0:Int)<(k:Int):=by omega
     by_cases FP:0<m5
     ·have k1:(0:Int)<(m5:Int):=by omega
      by_cases hmc:0<mc
      ·have k2:(0:Int)<(mc:Int):=by omega
       obtain ⟨wl,rfl⟩: ∃W,W=wr:=⟨_,rfl⟩;obtain ⟨bc,oc,rfl⟩:=(iK BP.out HMC.out).at0 hmc;obtain ⟨b5,o5,rfl⟩:=Ev.out.inn.at0 FP;have hm5b:m5<=4096:=by rw[<-Me.out];obtain ⟨hb,ht,_⟩:=aG (U2.out.tab (by simp[fA])).2;exact (eB hb ht).1
       go_upto_region 26 with (fail);have HGG:=hide (show gg<Wo.heap.size/\gg<B by obtain ⟨_,_,_,_,_⟩:=HO.out;omega);have HWL:Hid (ws.length+1<=maxLen/\(ws.length+1)*40<=140737488355328):=hide (by simp only[maxLen];omega);refine wp_region_flow (by kernel_rfl) depsMq26 (by kernel_rfl) (lN B) (λvs=>⟨#[.slice A n c,.slice A2 n2 c2,undef,undef,.pointer (some ⟨g4,0,none⟩),.slice none 0 0,.slice none 0 0,.slice none 0 0,.pointer (some ⟨gg,0,none⟩),.pointer (some ⟨gh,0,none⟩),.pointer (some ⟨g5,0,none⟩),.pointer (some ⟨g6,0,none⟩),.slice (some ⟨bc,oc,none⟩) mc cq,.int .i64 0,u14,(vs.getD 22 (.bool false)),.int .i64 ↑k,.slice A n c,.agg #[.slice A n c,.int .i64 0],.pointer (some ⟨gg,0,none⟩),.slice A2 n2 c2,.agg #[.slice A2 n2 c2,.int .i64 0],.pointer (some ⟨gh,0,none⟩),.slice (some ⟨ga,0,none⟩) 3 3,.slice (some ⟨gb,0,none⟩) 3 3,.pointer (some ⟨gg,0,none⟩),.slice (some ⟨b5,o5,none⟩) m5 c5,.agg #[.string ⟨#[114]⟩,.slice (some ⟨ga,0,none⟩) 3 3,.slice none 0 0,.slice (some ⟨b5,o5,none⟩) m5 c5],.slice (some ⟨gc,0,none⟩) 3 3,.slice (some ⟨gd,0,none⟩) 3 3,.pointer (some ⟨gg,0,none⟩),.slice A6 m6 c6,.agg #[.string ⟨#[111]⟩,.slice (some ⟨gc,0,none⟩) 3 3,.slice none 0 0,.slice A6 m6 c6],.pointer (some ⟨gh,0,none⟩),.int .i64 ↑k5,.int .i64 0,.bool false,u37,u38,u39,u40,u41,u42,u43,u44,u45,u46,u47,u48,u49,u50,u51,u52,u53,u54,u55,u56,u57,u58,u59,u60,u61,u62,u63,u64,u65,u66,u67,u68,u69,u70,u71,u72,u73,u74,u75,u76,u77,u78,u79,u80,u81,u82,u83,u84,u85,u86,u87,u88,.pointer (some ⟨gg,0,none⟩),.int .i64 ↑k6,.int .i64 ↑k,.bool true,.bool true,.pointer (some ⟨g5,3,none⟩),.slice (some ⟨b5,o5,none⟩) m5 c5,.int .i64 ↑m5,.bool true,.bool true,.bool true,.slice (some ⟨bc,oc,none⟩) mc cq,.int .i64 ↑mc,.bool true,.bool true,u104,u105,(vs.getD 0 (.bool false)),(vs.getD 1 (.bool false)),(vs.getD 2 (.bool false)),(vs.getD 3 (.bool false)),(vs.getD 4 (.bool false)),(vs.getD 5 (.bool false)),(vs.getD 6 (.bool false)),(vs.getD 7 (.bool false)),(vs.getD 8 (.bool false)),(vs.getD 9 (.bool false)),(vs.getD 10 (.bool false)),(vs.getD 11 (.bool false)),(vs.getD 12 (.bool false)),(vs.getD 13 (.bool false)),(vs.getD 14 (.bool false)),(vs.getD 15 (.bool false)),(vs.getD 16 (.bool false)),(vs.getD 17 (.bool false)),(vs.getD 18 (.bool false)),(vs.getD 19 (.bool false)),(vs.getD 20 (.bool false)),(vs.getD 21 (.bool false)),undef,undef,undef,undef,undef],[]⟩) 23 (by decide) (λL V=>S30 w Wo B g4 gg gh A n c l A2 n2 c2 l2 V/\OL 48 Wo.heap.size (λ_=>False) [9,89] V (.slice (some ⟨bc,oc,none⟩) mc cq) cs/\(L 21=false->OL 33 Wo.heap.size (λz=>B<=z) [] V u15 ws)) lkMq26 UMq26 (FMq26 B Wo.heap.size g5 gg b5 o5 m5 c5 bc oc mc cq u15 ws) (λj v=>j=22->v=u15) lkMq26_ok (FMq26_st B Wo.heap.size g5 gg b5 o5 m5 c5 bc oc mc cq u15 ws) [_,_,_,_,_,_,_,_,_,_,_,_,_,_,_,_,_,_,_,_,_,_,_] rfl rfl (λj h=>by subst h;rfl) (⟨HS.out.below (Below.refl _ _).drew,BP.out.below (Below.refl _ _).drew,λ_=>HOW.out.below (Below.refl _ _).drew⟩) ?_ ?_
       ·intro L i vs V hi hvl hL hd hG hF Rh;obtain ⟨v0,WP,rfl,hv0⟩:=vs_cons hvl;obtain ⟨v1,vs1,rfl,hv1⟩:=vs_cons hv0;obtain ⟨v2,vs2,rfl,hv2⟩:=vs_cons hv1;obtain ⟨v3,vs3,rfl,hv3⟩:=vs_cons hv2;obtain ⟨v4,vs4,rfl,hv4⟩:=vs_cons hv3;obtain ⟨v5,vs5,rfl,hv5⟩:=vs_cons hv4;obtain ⟨v6,vs6,rfl,hv6⟩:=vs_cons hv5;obtain ⟨v7,vs7,rfl,hv7⟩:=vs_cons hv6;obtain ⟨v8,vs8,rfl,hv8⟩:=vs_cons hv7;obtain ⟨v9,vs9,rfl,hv9⟩:=vs_cons hv8;obtain ⟨v10,vs10,rfl,hv10⟩:=vs_cons hv9;obtain ⟨v11,vs11,rfl,hv11⟩:=vs_cons hv10;obtain ⟨v12,vs12,rfl,hv12⟩:=vs_cons hv11;obtain ⟨v13,vs13,rfl,hv13⟩:=vs_cons hv12;obtain ⟨v14,vs14,rfl,hv14⟩:=vs_cons hv13;obtain ⟨v15,vs15,rfl,hv15⟩:=vs_cons hv14;obtain ⟨v16,vs16,rfl,hv16⟩:=vs_cons hv15;obtain ⟨v17,vs17,rfl,hv17⟩:=vs_cons hv16;obtain ⟨v18,vs18,rfl,hv18⟩:=vs_cons hv17;obtain ⟨v19,vs19,rfl,hv19⟩:=vs_cons hv18;obtain ⟨v20,vs20,rfl,hv20⟩:=vs_cons hv19;obtain ⟨v21,vs21,rfl,hv21⟩:=vs_cons hv20;obtain ⟨v22,vs22,rfl,hv22⟩:=vs_cons hv21;obtain rfl:=vs_nil hv22;clear hvl hv0 hv1 hv2 hv3 hv4 hv5 hv6 hv7 hv8 hv9 hv10 hv11 hv12 hv13 hv14 hv15 hv16 hv17 hv18 hv19 hv20 hv21 hv22;have hi:i<23:=hi;have HG:=hide hG;have HF:=hide hF;have HD:=hide hd;have Hr:=hide hL;have UB:=hide Rh;clear hG hF hd hL Rh;obtain rfl|rfl|rfl|rfl|rfl|rfl|rfl|rfl|rfl|rfl|rfl|rfl|rfl|rfl|rfl|rfl|rfl|rfl|rfl|rfl|rfl|rfl|rfl:i=0\/i=1\/i=2\/i=3\/i=4\/i=5\/i=6\/i=7\/i=8\/i=9\/i=10\/i=11\/i=12\/i=13\/i=14\/i=15\/i=16\/i=17\/i=18\/i=19\/i=20\/i=21\/i=22:=by omega
        ·obtain rfl:v22=u15:=UB.out 22 (Bool.eq_false_iff.2 λh=>by have h1:L 21=true:=(HF.out 22 h).1;have h2:L 0=true:=(HF.out 21 h1).1;rw[Hr.out]at h2;cases h2) rfl;refine wpOp_step rfl (λK1 hK=>?_);have HK:=hide hK;clear hK;go_simp;exact HK.out _ _ ⟨_,rfl,rfl,⟨HG.out.1,HG.out.2.1,HG.out.2.2⟩,.inl (lN.below (Below.refl _ _))⟩
        ·refine wpOp_step rfl (λK1 hK=>?_);have HK:=hide hK;clear hK;go_simp;exact HK.out _ _ ⟨_,rfl,rfl,⟨HG.out.1,HG.out.2.1,HG.out.2.2⟩,.inl (lN.below (Below.refl _ _))⟩
        ·refine wpOp_step rfl (λK1 hK=>?_);have HK:=hide hK;clear hK;go_simp;exact HK.out _ _ ⟨_,rfl,rfl,⟨HG.out.1,HG.out.2.1,HG.out.2.2⟩,.inl (lN.below (Below.refl _ _))⟩
        ·refine wpOp_step rfl (λK1 hK=>?_);have HK:=hide hK;clear hK;go_simp;exact HK.out _ _ ⟨_,rfl,rfl,⟨HG.out.1,HG.out.2.1,HG.out.2.2⟩,.inl (lN.below (Below.refl _ _))⟩
        ·obtain rfl:v3=.slice (some ⟨bc,oc,none⟩) mc cq:=(HF.out 3 (HD.out 3 (by simp[depsMq26]))).2 (λ_ h=>by cases h);refine wpOp_step rfl (λK1 hK=>?_);have HK:=hide hK;clear hK;go_simp;exact HK.out _ _ ⟨_,rfl,rfl,⟨HG.out.1,HG.out.2.1,HG.out.2.2⟩,.inl (lN.below (Below.refl _ _))⟩
        ·obtain rfl:v2=.pointer (some ⟨gg,0,none⟩):=(HF.out 2 (HD.out 2 (by simp[depsMq26]))).2 (λ_ h=>by cases h);obtain rfl:v4=.int .i64 (mc:Int):=(HF.out 4 (HD.out 4 (by simp[depsMq26]))).2 (λ_ h=>by cases h);obtain ⟨j1,hj1⟩:=HG.out.1.ng;have HJ1:=hide hj1;clear hj1;refine wpOp_step rfl (λK1 hK=>?_);have HK:=hide hK;clear hK;go_simp;go_at_call 32;refine (eH _ gg A n c l _ HJ1.out mc (by omega)).mono ?_;rintro e w1 ⟨⟨x1,i1,rfl,hx0,hx1,hn1⟩,hg1⟩;have hx1:=hx1 (by omega);obtain ⟨q1,rfl⟩: ∃q:Nat,x1=q:=⟨x1.toNat,by omega⟩;have HN9:=hide hn1;have O9:=hide hg1;clear hn1 hg1;go_wp2_with fail;exact HK.out _ _ ⟨_,rfl,⟨_,rfl,by omega⟩,⟨HG.out.1.nextg HO.out HM.out HN9.out O9.out,HG.out.2.1.up30 (lN.grown O9.out HGG.out.1),λh=>(HG.out.2.2 h).upO O9.out (λz e=>by injection e with e;have:=HGG.out.2;subst e;exact ⟨by omega,by have:=HG.out.1.up.1;have:=HGG.out.1;omega⟩)⟩,.inl (lN.grown O9.out HGG.out.2)⟩
        ·obtain rfl:v1=.slice (some ⟨bc,oc,none⟩) mc cq:=(HF.out 1 (HD.out 1 (by simp[depsMq26]))).2 (λ_ h=>by cases h);obtain ⟨q,rfl,hq⟩: ∃q:Nat,v5=.int .i64 (q:Int)/\q<mc:=(HF.out 5 (HD.out 5 (by simp[depsMq26]))).2 (λ_ h=>by cases h);have hq1:(q:Int)<(mc:Int):=by omega
         have hq2:(0:Int)<=(q:Int):=by omega
         refine wpOp_step rfl (λK1 hK=>?_);have HK:=hide hK;clear hK;go_simp;exact HK.out _ _ ⟨_,rfl,⟨q,rfl,hq⟩,⟨HG.out.1,HG.out.2.1,HG.out.2.2⟩,.inl (lN.below (Below.refl _ _))⟩
        ·obtain ⟨q,rfl,hq⟩: ∃q:Nat,v6=.pointer (some ⟨bc,oc+q*14,none⟩)/\q<mc:=(HF.out 6 (HD.out 6 (by simp[depsMq26]))).2 (λ_ h=>by cases h);refine wpOp_step rfl (λK1 hK=>?_);have HK:=hide hK;clear hK;go_simp;exact HK.out _ _ ⟨_,rfl,⟨q,rfl,hq⟩,⟨HG.out.1,HG.out.2.1,HG.out.2.2⟩,.inl (lN.below (Below.refl _ _))⟩
        ·obtain ⟨q,rfl,hq⟩: ∃q:Nat,v7=.pointer (some ⟨bc,oc+q*14,none⟩)/\q<mc:=(HF.out 7 (HD.out 7 (by simp[depsMq26]))).2 (λ_ h=>by cases h);obtain ⟨b9,o9,x9,e9,_,_,_,_,_,_,_,_,_,_,_,hcs,_,_,_,hok⟩:=(iK HG.out.2.1 HMC.out).chk hq;injection e9 with e9;injection e9 with e9 e9b;subst e9 e9b;have c9:=hcs.1;clear hcs;refine wpOp_step rfl (λK1 hK=>?_);have HK:=hide hK;clear hK;go_simp;exact HK.out _ _ ⟨_,rfl,⟨_,rfl,hok.1⟩,⟨HG.out.1,HG.out.2.1,HG.out.2.2⟩,.inl (lN.below (Below.refl _ _))⟩
        ·refine wpOp_step rfl (λK1 hK=>?_);have HK:=hide hK;clear hK;go_simp;exact HK.out _ _ ⟨_,rfl,rfl,⟨HG.out.1,HG.out.2.1,HG.out.2.2⟩,.inl (lN.below (Below.refl _ _))⟩
        ·obtain rfl:v9=.pointer (some ⟨g5,3,none⟩):=(HF.out 9 (HD.out 9 (by simp[depsMq26]))).2 (λ_ h=>by cases h);have y3:=(Si.out.up30 Uv.out HG.out.1.up).at 3 rfl;refine wpOp_step rfl (λK1 hK=>?_);have HK:=hide hK;clear hK;go_simp;exact HK.out _ _ ⟨_,rfl,rfl,⟨HG.out.1,HG.out.2.1,HG.out.2.2⟩,.inl (lN.below (Below.refl _ _))⟩
        ·refine wpOp_step rfl (λK1 hK=>?_);have HK:=hide hK;clear hK;go_simp;exact HK.out _ _ ⟨_,rfl,rfl,⟨HG.out.1,HG.out.2.1,HG.out.2.2⟩,.inl (lN.below (Below.refl _ _))⟩
        ·refine wpOp_step rfl (λK1 hK=>?_);have HK:=hide hK;clear hK;go_simp;exact HK.out _ _ ⟨_,rfl,rfl,⟨HG.out.1,HG.out.2.1,HG.out.2.2⟩,.inl (lN.below (Below.refl _ _))⟩
        ·obtain rfl:v12=.pointer (some ⟨g5,3,none⟩):=(HF.out 12 (HD.out 12 (by simp[depsMq26]))).2 (λ_ h=>by cases h);have y3:=(Si.out.up30 Uv.out HG.out.1.up).at 3 rfl;refine wpOp_step rfl (λK1 hK=>?_);have HK:=hide hK;clear hK;go_simp;exact HK.out _ _ ⟨_,rfl,rfl,⟨HG.out.1,HG.out.2.1,HG.out.2.2⟩,.inl (lN.below (Below.refl _ _))⟩
        ·obtain rfl:v13=.slice (some ⟨b5,o5,none⟩) m5 c5:=(HF.out 13 (HD.out 13 (by simp[depsMq26]))).2 (λ_ h=>by cases h);refine wpOp_step rfl (λK1 hK=>?_);have HK:=hide hK;clear hK;go_simp;exact HK.out _ _ ⟨_,rfl,rfl,⟨HG.out.1,HG.out.2.1,HG.out.2.2⟩,.inl (lN.below (Below.refl _ _))⟩
        ·obtain rfl:v11=.pointer (some ⟨gg,0,none⟩):=(HF.out 11 (HD.out 11 (by simp[depsMq26]))).2 (λ_ h=>by cases h);obtain rfl:v14=.int .i64 (m5:Int):=(HF.out 14 (HD.out 14 (by simp[depsMq26]))).2 (λ_ h=>by cases h);obtain ⟨j1,hj1⟩:=HG.out.1.ng;have HJ1:=hide hj1;clear hj1;refine wpOp_step rfl (λK1 hK=>?_);have HK:=hide hK;clear hK;go_simp;go_at_call 32;refine (eH _ gg A n c l _ HJ1.out m5 (by omega)).mono ?_;rintro e w1 ⟨⟨x1,i1,rfl,hx0,hx1,hn1⟩,hg1⟩;have hx1:=hx1 (by omega);obtain ⟨q1,rfl⟩: ∃q:Nat,x1=q:=⟨x1.toNat,by omega⟩;have HN9:=hide hn1;have O9:=hide hg1;clear hn1 hg1;go_wp2_with fail;exact HK.out _ _ ⟨_,rfl,⟨_,rfl,by omega⟩,⟨HG.out.1.nextg HO.out HM.out HN9.out O9.out,HG.out.2.1.up30 (lN.grown O9.out HGG.out.1),λh=>(HG.out.2.2 h).upO O9.out (λz e=>by injection e with e;have:=HGG.out.2;subst e;exact ⟨by omega,by have:=HG.out.1.up.1;have:=HGG.out.1;omega⟩)⟩,.inl (lN.grown O9.out HGG.out.2)⟩
        ·obtain rfl:v10=.slice (some ⟨b5,o5,none⟩) m5 c5:=(HF.out 10 (HD.out 10 (by simp[depsMq26]))).2 (λ_ h=>by cases h);obtain ⟨q,rfl,hq⟩: ∃q:Nat,v15=.int .i64 (q:Int)/\q<m5:=(HF.out 15 (HD.out 15 (by simp[depsMq26]))).2 (λ_ h=>by cases h);have hq1:(q:Int)<(m5:Int):=by omega
         have hq2:(0:Int)<=(q:Int):=by omega
         refine wpOp_step rfl (λK1 hK=>?_);have HK:=hide hK;clear hK;go_simp;exact HK.out _ _ ⟨_,rfl,⟨q,rfl,hq⟩,⟨HG.out.1,HG.out.2.1,HG.out.2.2⟩,.inl (lN.below (Below.refl _ _))⟩
        ·obtain ⟨q,rfl,hq⟩: ∃q:Nat,v16=.pointer (some ⟨b5,o5+q*2,none⟩)/\q<m5:=(HF.out 16 (HD.out 16 (by simp[depsMq26]))).2 (λ_ h=>by cases h);refine wpOp_step rfl (λK1 hK=>?_);have HK:=hide hK;clear hK;go_simp;exact HK.out _ _ ⟨_,rfl,⟨q,rfl,hq⟩,⟨HG.out.1,HG.out.2.1,HG.out.2.2⟩,.inl (lN.below (Below.refl _ _))⟩
        ·obtain ⟨q,rfl,hq⟩: ∃q:Nat,v17=.pointer (some ⟨b5,o5+q*2,none⟩)/\q<m5:=(HF.out 17 (HD.out 17 (by simp[depsMq26]))).2 (λ_ h=>by cases h);obtain ⟨Ax,nx,cx,row,cx9,hrow⟩:=sl_row30 (Sl.keep (λz hz=>HG.out.1.up.2 z hz.1 hz.2) Ev.out) hq;have HRW:=hide hrow;clear hrow;refine wpOp_step rfl (λK1 hK=>?_);have HK:=hide hK;clear hK;go_simp;exact HK.out _ _ ⟨_,rfl,⟨_,_,_,row,rfl,HRW.out,HG.out.1.up.1⟩,⟨HG.out.1,HG.out.2.1,HG.out.2.2⟩,.inl (lN.below (Below.refl _ _))⟩
        ·obtain ⟨s,rfl,hs⟩: ∃s,v8=.string s/\Str s:=(HF.out 8 (HD.out 8 (by simp[depsMq26]))).2 (λ_ h=>by cases h);obtain ⟨Ax,nx,cx,row,rfl,hrow,hsz⟩: ∃Ax nx cx,∃row:List Val,v18=.slice Ax nx cx/\(Sl V (λz=>B<=z/\z<Wo.heap.size) Ax nx cx row)/\Wo.heap.size<=V.heap.size:=(HF.out 18 (HD.out 18 (by simp[depsMq26]))).2 (λ_ h=>by cases h);have HRW:=hide hrow;clear hrow;refine wpOp_step rfl (λK1 hK=>?_);have HK:=hide hK;clear hK;go_simp;exact HK.out _ _ ⟨_,rfl,⟨_,_,_,_,row,rfl,HRW.out,hsz,hs⟩,⟨HG.out.1,HG.out.2.1,HG.out.2.2⟩,.inl (lN.below (Below.refl _ _))⟩
        ·obtain ⟨s,Ax,nx,cx,row,rfl,hrow,hsz,hs⟩: ∃s Ax nx cx,∃row:List Val,v19=.agg #[.string s,.slice Ax nx cx]/\(Sl V (λz=>B<=z/\z<Wo.heap.size) Ax nx cx row)/\Wo.heap.size<=V.heap.size/\Str s:=(HF.out 19 (HD.out 19 (by simp[depsMq26]))).2 (λ_ h=>by cases h);have HRW:=hide (Sl.keep (λz hz=>(ae (o:=.cells #[.string s,.slice Ax nx cx] 33)).block z (Nat.lt_of_lt_of_le hz.2 hsz)) hrow);clear hrow;refine wpOp_step rfl (λK1 hK=>?_);have HK:=hide hK;clear hK;go_simp;exact HK.out _ _ ⟨_,rfl,⟨_,s,Ax,nx,cx,row,rfl,by have:=HO.out.2.2.2.2;omega,heap_alloc_new _ _,HRW.out,by simp;omega,hs⟩,⟨HG.out.1.below ae,HG.out.2.1.below ae,λh=>(HG.out.2.2 h).below ae⟩,.inl (lN.below ae)⟩
        ·obtain rfl:v0=u15:=(HF.out 0 (HD.out 0 (by simp[depsMq26]))).2 (λ_ h=>by cases h);obtain ⟨g,s,Ax,nx,cx,row,rfl,hg,hgb,hrow,hsz,hs⟩: ∃g s Ax nx cx,∃row:List Val,v20=.slice (some ⟨g,0,none⟩) 1 1/\B<=g/\V.heap[g]?=some (.cells #[.string s,.slice Ax nx cx] 33 (0,0))/\(Sl V (λz=>B<=z/\z<Wo.heap.size) Ax nx cx row)/\Wo.heap.size<=V.heap.size/\Str s:=(HF.out 20 (HD.out 20 (by simp[depsMq26]))).2 (λu h=>by simp only[UMq26,List.mem_cons,List.not_mem_nil,or_false]at h;subst h;exact Hr.out);have HGB:=hide hgb;have HRW:=hide hrow;have HW0:=hide (HG.out.2.2 Hr.out);clear hgb hrow;refine wpOp_step rfl (λK1 hK=>?_);have HK:=hide hK;clear hK;refine step_wanted30 (by rfl) ?_;refine qc V _ _ _ rfl elem_wvr30 List.not_mem_nil HW0.out (by simp[Act.eval,Act.put]) (some ⟨g,0,none⟩) 1 1 [.string s,.slice Ax nx cx] [⟨s,row⟩] (by simp[Act.eval,Act.put]) (by intro h;cases h) (src_at2 HGB.out) (Cells.one ⟨_,_,_,rfl,HRW.out.mono (λz hz=>.inl hz),hs⟩) rfl HWL.out.1 HWL.out.2 ?_;intro v9 w9 vV fo xe pE;have Aa:=hide vV;have O9:=hide xe;have HTY:=hide (λz (e:v0.ownBlock=some z)=>HW0.out.ty e);clear vV fo xe pE;exact HK.out _ _ ⟨_,rfl,⟨_,HO.out.2.2.2.2,Aa.out⟩,⟨HG.out.1.own HO.out O9.out (λz e=>(HTY.out z e).1),OL.besideT HG.out.2.1 HW0.out (by decide) (by decide) O9.out,λh=>by simp at h⟩,.inr (λj hj hL hu q=>FMq26_off _ _ _ _ _ _ _ _ _ _ _ _ _ _ j _ _ _ _ (λe=>by subst e;exact (hu 21 (by simp[UMq26])).1 rfl) hj (λe=>by subst e;have h1:L 21=true:=(HF.out 22 hL).1;rw[Hr.out]at h1;cases h1) O9.out.size (λz h1 h2 h3=>O9.out.block z h2 (λe=>by have:=(HTY.out z e.symm).1;omega)) q)⟩
        ·obtain ⟨x,hB,ho⟩: ∃x:Wvr,B<=Wo.heap.size/\OL 33 Wo.heap.size (λz=>B<=z) [] V v21 (ws++[x]):=(HF.out 21 (HD.out 21 (by simp[depsMq26]))).2 (λ_ h=>by cases h);have Aa:=hide ho;clear ho;refine wpOp_step rfl (λK1 hK=>?_);have HK:=hide hK;clear hK;go_simp;exact HK.out _ _ ⟨_,rfl,⟨x,hB,Aa.out⟩,⟨HG.out.1,HG.out.2.1,HG.out.2.2⟩,.inl (lN.below (Below.refl _ _))⟩
       ·intro L vs V hL hvl hG hF;obtain ⟨v0,WP,rfl,hv0⟩:=vs_cons hvl;obtain ⟨v1,vs1,rfl,hv1⟩:=vs_cons hv0;obtain ⟨v2,vs2,rfl,hv2⟩:=vs_cons hv1;obtain ⟨v3,vs3,rfl,hv3⟩:=vs_cons hv2;obtain ⟨v4,vs4,rfl,hv4⟩:=vs_cons hv3;obtain ⟨v5,vs5,rfl,hv5⟩:=vs_cons hv4;obtain ⟨v6,vs6,rfl,hv6⟩:=vs_cons hv5;obtain ⟨v7,vs7,rfl,hv7⟩:=vs_cons hv6;obtain ⟨v8,vs8,rfl,hv8⟩:=vs_cons hv7;obtain ⟨v9,vs9,rfl,hv9⟩:=vs_cons hv8;obtain ⟨v10,vs10,rfl,hv10⟩:=vs_cons hv9;obtain ⟨v11,vs11,rfl,hv11⟩:=vs_cons hv10;obtain ⟨v12,vs12,rfl,hv12⟩:=vs_cons hv11;obtain ⟨v13,vs13,rfl,hv13⟩:=vs_cons hv12;obtain ⟨v14,vs14,rfl,hv14⟩:=vs_cons hv13;obtain ⟨v15,vs15,rfl,hv15⟩:=vs_cons hv14;obtain ⟨v16,vs16,rfl,hv16⟩:=vs_cons hv15;obtain ⟨v17,vs17,rfl,hv17⟩:=vs_cons hv16;obtain ⟨v18,vs18,rfl,hv18⟩:=vs_cons hv17;obtain ⟨v19,vs19,rfl,hv19⟩:=vs_cons hv18;obtain ⟨v20,vs20,rfl,hv20⟩:=vs_cons hv19;obtain ⟨v21,vs21,rfl,hv21⟩:=vs_cons hv20;obtain ⟨v22,vs22,rfl,hv22⟩:=vs_cons hv21;obtain rfl:=vs_nil hv22;clear hvl hv0 hv1 hv2 hv3 hv4 hv5 hv6 hv7 hv8 hv9 hv10 hv11 hv12 hv13 hv14 hv15 hv16 hv17 hv18 hv19 hv20 hv21 hv22;have HG:=hide hG;have HF:=hide hF;have HL:=hide hL;clear hG hF hL;obtain ⟨x,_,ho⟩: ∃x:Wvr,B<=Wo.heap.size/\OL 33 Wo.heap.size (λz=>B<=z) [] V v22 (ws++[x]):=HF.out 22 (by show 22<23;omega) rfl;have Aa:=hide ho;clear ho;have wk1:IntKind.i64.wrap ((k:Int)-1)=((k-1:Nat):Int):=by rw[show (k:Int)-1=((k-1:Nat):Int) by omega];exact IntWalk.i64_in _ (by omega)
        go_wp2;go_roundw
        case rel=>exact ⟨k-1,ws++[x],by omega,rfl,by simp;omega,Aa.out,HG.out.2.1,HG.out.1⟩
        case measure=>simp[RowKit.intOf];omega
      ·have k2:¬(0:Int)<(mc:Int):=by omega
       obtain ⟨Aw,cw,rfl,hiw⟩:=HOW.out.inn;obtain ⟨mw,hmw⟩: ∃m,ws.length=m:=⟨_,rfl⟩;have how2:=HOW.out;rw[hmw]at how2⊢;have HOW:=hide how2;have HND2:=hide (show (cs.map Chk.name).Nodup by rw[Pf.out];exact nodup30 Hq.out (λj hj=>(HKS.out j hj).2));clear hiw how2;go_upto_region 27 with (fail);refine wp_region_flow (by kernel_rfl) depsMq27 (by kernel_rfl) (lN B) (λvs=>⟨#[.slice A n c,.slice A2 n2 c2,undef,undef,.pointer (some ⟨g4,0,none⟩),(vs.getD 6 (.bool false)),(vs.getD 7 (.bool false)),(vs.getD 8 (.bool false)),.pointer (some ⟨gg,0,none⟩),.pointer (some ⟨gh,0,none⟩),.pointer (some ⟨g5,0,none⟩),.pointer (some ⟨g6,0,none⟩),.slice Ac mc cq,.int .i64 0,u14,.slice Aw mw cw,.int .i64 ↑k,.slice A n c,.agg #[.slice A n c,.int .i64 0],.pointer (some ⟨gg,0,none⟩),.slice A2 n2 c2,.agg #[.slice A2 n2 c2,.int .i64 0],.pointer (some ⟨gh,0,none⟩),.slice (some ⟨ga,0,none⟩) 3 3,.slice (some ⟨gb,0,none⟩) 3 3,.pointer (some ⟨gg,0,none⟩),.slice A5 m5 c5,.agg #[.string ⟨#[114]⟩,.slice (some ⟨ga,0,none⟩) 3 3,.slice none 0 0,.slice A5 m5 c5],.slice (some ⟨gc,0,none⟩) 3 3,.slice (some ⟨gd,0,none⟩) 3 3,.pointer (some ⟨gg,0,none⟩),.slice A6 m6 c6,.agg #[.string ⟨#[111]⟩,.slice (some ⟨gc,0,none⟩) 3 3,.slice none 0 0,.slice A6 m6 c6],.pointer (some ⟨gh,0,none⟩),.int .i64 ↑k5,.int .i64 0,.bool false,u37,u38,u39,u40,u41,u42,u43,u44,u45,u46,u47,u48,u49,u50,u51,u52,u53,u54,u55,u56,u57,u58,u59,u60,u61,u62,u63,u64,u65,u66,u67,u68,u69,u70,u71,u72,u73,u74,u75,u76,u77,u78,u79,u80,u81,u82,u83,u84,u85,u86,u87,u88,.pointer (some ⟨gg,0,none⟩),.int .i64 ↑k6,.int .i64 ↑k,.bool true,.bool true,.pointer (some ⟨g5,3,none⟩),.slice A5 m5 c5,.int .i64 ↑m5,.bool true,.bool true,.bool true,.slice Ac mc cq,.int .i64 ↑mc,.bool false,.bool false,u104,u105,u106,u107,u108,u109,u110,u111,u112,u113,u114,u115,u116,u117,u118,u119,u120,u121,u122,u123,u124,u125,u126,u127,(vs.getD 0 (.bool false)),(vs.getD 1 (.bool false)),(vs.getD 2 (.bool false)),(vs.getD 3 (.bool false)),(vs.getD 4 (.bool false))],[]⟩) 9 (by decide) (λL V=>E30 w wr B V/\ ∃X,dJ V g4 29 X/\X.length=4/\(L 5=true->X=[.string ⟨#[114]⟩,.slice (some ⟨ga,0,none⟩) 3 3,.slice none 0 0,.slice A5 m5 c5])) lkMq27 UMq27 (FMq27 B (.slice Ac mc cq) (.slice Aw mw cw) [.string ⟨#[114]⟩,.slice (some ⟨ga,0,none⟩) 3 3,.slice none 0 0,.slice A5 m5 c5] [.string ⟨#[111]⟩,.slice (some ⟨gc,0,none⟩) 3 3,.slice none 0 0,.slice A6 m6 c6]) (λ_ _=>True) lkMq27_ok (FMq27_st B (.slice Ac mc cq) (.slice Aw mw cw) [.string ⟨#[114]⟩,.slice (some ⟨ga,0,none⟩) 3 3,.slice none 0 0,.slice A5 m5 c5] [.string ⟨#[111]⟩,.slice (some ⟨gc,0,none⟩) 3 3,.slice none 0 0,.slice A6 m6 c6]) [_,_,_,_,_,.bool false,_,_,_] rfl rfl (λ_=>trivial) (⟨⟨lN.below (Below.refl _ _).drew,aa HS.out.bel (Below.refl _ _).drew⟩,_,HS.out.k4.drew,rfl,λh=>by cases h⟩) ?_ ?_
       ·intro L i vs V hi hvl hL hd hG hF Rh;obtain ⟨v0,WP,rfl,hv0⟩:=vs_cons hvl;obtain ⟨v1,vs1,rfl,hv1⟩:=vs_cons hv0;obtain ⟨v2,vs2,rfl,hv2⟩:=vs_cons hv1;obtain ⟨v3,vs3,rfl,hv3⟩:=vs_cons hv2;obtain ⟨v4,vs4,rfl,hv4⟩:=vs_cons hv3;obtain ⟨v5,vs5,rfl,hv5⟩:=vs_cons hv4;obtain ⟨v6,vs6,rfl,hv6⟩:=vs_cons hv5;obtain ⟨v7,vs7,rfl,hv7⟩:=vs_cons hv6;obtain ⟨v8,vs8,rfl,hv8⟩:=vs_cons hv7;obtain rfl:=vs_nil hv8;clear hvl hv0 hv1 hv2 hv3 hv4 hv5 hv6 hv7 hv8;have hi:i<9:=hi;have HG:=hide hG;have HF:=hide hF;have HD:=hide hd;have Hr:=hide hL;have UB:=hide Rh;clear hG hF hd hL Rh;obtain rfl|rfl|rfl|rfl|rfl|rfl|rfl|rfl|rfl:i=0\/i=1\/i=2\/i=3\/i=4\/i=5\/i=6\/i=7\/i=8:=by omega
        ·obtain ⟨LTR,r0,r1,r2,r3⟩:=(Si.out.up30 Uv.out (HS.out.up.trans HG.out.1.up)).ats4;refine wpOp_step rfl (λK1 hK=>?_);have HK:=hide hK;clear hK;go_simp;exact HK.out _ _ ⟨_,rfl,rfl,⟨HG.out.1,HG.out.2⟩,.inl (lN.below (Below.refl _ _))⟩
        ·refine wpOp_step rfl (λK1 hK=>?_);have HK:=hide hK;clear hK;go_simp;exact HK.out _ _ ⟨_,rfl,rfl,⟨HG.out.1,HG.out.2⟩,.inl (lN.below (Below.refl _ _))⟩
        ·obtain ⟨LTO,o0,o1,o2,o3⟩:=(Sg.out.up30 Uw.out (HS.out.up.trans HG.out.1.up)).ats4;refine wpOp_step rfl (λK1 hK=>?_);have HK:=hide hK;clear hK;go_simp;exact HK.out _ _ ⟨_,rfl,rfl,⟨HG.out.1,HG.out.2⟩,.inl (lN.below (Below.refl _ _))⟩
        ·obtain rfl:v2=.agg [.string ⟨#[111]⟩,.slice (some ⟨gc,0,none⟩) 3 3,.slice none 0 0,.slice A6 m6 c6].toArray:=(HF.out 2 (HD.out 2 (by simp[depsMq27]))).2 (λ_ h=>by cases h);refine wpOp_step rfl (λK1 hK=>?_);have HK:=hide hK;clear hK;go_simp;exact HK.out _ _ ⟨_,rfl,⟨_,rfl,Nat.le_trans HO.out.2.2.2.2 (Nat.le_trans HS.out.up.1 HG.out.1.up.1),dJ.made _ _ _⟩,⟨HG.out.1.below ae,by obtain ⟨X,h1,h2⟩:=HG.out.2;exact ⟨X,h1.below ae,h2⟩⟩,.inl (lN.below ae)⟩
        ·refine wpOp_step rfl (λK1 hK=>?_);have HK:=hide hK;clear hK;go_simp;exact HK.out _ _ ⟨_,rfl,rfl,⟨HG.out.1,HG.out.2⟩,.inl (lN.below (Below.refl _ _))⟩
        ·obtain rfl:v0=.agg [.string ⟨#[114]⟩,.slice (some ⟨ga,0,none⟩) 3 3,.slice none 0 0,.slice A5 m5 c5].toArray:=(HF.out 0 (HD.out 0 (by simp[depsMq27]))).2 (λ_ h=>by cases h);obtain ⟨X,hX,hX4,_⟩:=HG.out.2;obtain ⟨X0,X1,X2,X3,rfl⟩: ∃a b c d,X=[a,b,c,d]:=by match X,hX4 with| [a,b,c,d],_=>exact ⟨a,b,c,d,rfl⟩
         have HX:=hide hX;obtain ⟨LT4,z0,z1,z2,z3⟩:=hX.ats4;have zf0:=hX.fz 0;have zf1:=hX.fz 1;have zf2:=hX.fz 2;have zf3:=hX.fz 3;have O8:=hide (show g4<B by obtain ⟨_,_,_,_,_⟩:=HO.out;omega);clear hX hX4;refine wpOp_step rfl (λK1 hK=>?_);have HK:=hide hK;clear hK;go_simp;exact HK.out _ _ ⟨.bool false,rfl,trivial,⟨HG.out.1.set4 O8.out (by have:=HO.out.1;omega),_,HX.out.set4 rfl,rfl,λ_=>rfl⟩,.inl ((lN.grown (grown4 _ _ _ _ _ _) O8.out))⟩
        ·obtain rfl:v1=(.slice Ac mc cq):=(HF.out 1 (HD.out 1 (by simp[depsMq27]))).2 (λ_ h=>by cases h);refine wpOp_step rfl (λK1 hK=>?_);have HK:=hide hK;clear hK;go_simp;exact HK.out _ _ ⟨_,rfl,rfl,⟨HG.out.1,HG.out.2⟩,.inl (lN.below (Below.refl _ _))⟩
        ·obtain ⟨d,rfl,hd,hb⟩: ∃d,v3=.slice (some ⟨d,0,none⟩) 1 1/\B<=d/\dJ V d 29 [.string ⟨#[111]⟩,.slice (some ⟨gc,0,none⟩) 3 3,.slice none 0 0,.slice A6 m6 c6]:=(HF.out 3 (HD.out 3 (by simp[depsMq27]))).2 (λ_ h=>by cases h);have R6:=hide hb;clear hb;refine wpOp_step rfl (λK1 hK=>?_);have HK:=hide hK;clear hK;go_simp;exact HK.out _ _ ⟨_,rfl,⟨_,rfl,hd,R6.out⟩,⟨HG.out.1,HG.out.2⟩,.inl (lN.below (Below.refl _ _))⟩
        ·obtain rfl:v4=(.slice Aw mw cw):=(HF.out 4 (HD.out 4 (by simp[depsMq27]))).2 (λ_ h=>by cases h);refine wpOp_step rfl (λK1 hK=>?_);have HK:=hide hK;clear hK;go_simp;exact HK.out _ _ ⟨_,rfl,rfl,⟨HG.out.1,HG.out.2⟩,.inl (lN.below (Below.refl _ _))⟩
       ·intro L vs V hL hvl hG hF;obtain ⟨v0,WP,rfl,hv0⟩:=vs_cons hvl;obtain ⟨v1,vs1,rfl,hv1⟩:=vs_cons hv0;obtain ⟨v2,vs2,rfl,hv2⟩:=vs_cons hv1;obtain ⟨v3,vs3,rfl,hv3⟩:=vs_cons hv2;obtain ⟨v4,vs4,rfl,hv4⟩:=vs_cons hv3;obtain ⟨v5,vs5,rfl,hv5⟩:=vs_cons hv4;obtain ⟨v6,vs6,rfl,hv6⟩:=vs_cons hv5;obtain ⟨v7,vs7,rfl,hv7⟩:=vs_cons hv6;obtain ⟨v8,vs8,rfl,hv8⟩:=vs_cons hv7;obtain rfl:=vs_nil hv8;clear hvl hv0 hv1 hv2 hv3 hv4 hv5 hv6 hv7 hv8;have HG:=hide hG;have HF:=hide hF;have HL:=hide hL;clear hG hF hL;obtain rfl:v6=(.slice Ac mc cq):=HF.out 6 (by show 6<9;omega) rfl;obtain ⟨d,rfl,hd,hb⟩: ∃d,v7=.slice (some ⟨d,0,none⟩) 1 1/\B<=d/\dJ V d 29 [.string ⟨#[111]⟩,.slice (some ⟨gc,0,none⟩) 3 3,.slice none 0 0,.slice A6 m6 c6]:=HF.out 7 (by show 7<9;omega) rfl;obtain rfl:v8=(.slice Aw mw cw):=HF.out 8 (by show 8<9;omega) rfl;have R6:=hide hb;obtain ⟨X,hX,_,hX5⟩:=HG.out.2;obtain rfl:=hX5 (HL.out 5 (by show 5<9;omega));have HX:=hide hX;have HE:=hide HG.out.1;clear hb hX hX5;go_wp2_with fail;refine bodyPost_ret (v:=.tuple #[.agg ([.string ⟨#[114]⟩,.slice (some ⟨ga,0,none⟩) 3 3,.slice none 0 0,.slice A5 m5 c5]:List Value).toArray,.slice Ac mc cq,.slice (some ⟨d,0,none⟩) 1 1,.slice Aw mw cw]) (results_c1t3 (cs:=[.string ⟨#[114]⟩,.slice (some ⟨ga,0,none⟩) 3 3,.slice none 0 0,.slice A5 m5 c5]) rfl _ _ g4 _ _ _ _ rfl rfl rfl rfl HX.out.all Tryz.underlying29 rfl (by kernel_rfl)) rfl ?_;exact ⟨⟨_,A5,m5,c5,Ac,mc,cq,_,Aw,mw,cw,rows,orows,cs,ws,rfl,(xP.out.up30 (HS.out.up.trans HE.out.up)).inn,(Ev.out.up30 (HS.out.up.trans HE.out.up)).inn,iK (BP.out.upB HE.out.up HO.out.2.2.2.2) HMC.out,cells_quarsR R6.out (Ef.out.up30 (HS.out.up.trans HE.out.up)).inn (Mg.out.up30 (HS.out.up.trans HE.out.up)).inn,iK (HOW.out.upW HE.out.up HO.out.2.2.2.2) hmw,U2.out,Sz.out,HGOOD.out,HND2.out,by rw[HMC.out];exact hmc4,by omega⟩,HE.out.bel⟩
     ·have k1:¬(0:Int)<(m5:Int):=by omega
      obtain ⟨Aw,cw,rfl,hiw⟩:=HOW.out.inn;obtain ⟨mw,hmw⟩: ∃m,ws.length=m:=⟨_,rfl⟩;have how2:=HOW.out;rw[hmw]at how2⊢;have HOW:=hide how2;have HND2:=hide (show (cs.map Chk.name).Nodup by rw[Pf.out];exact nodup30 Hq.out (λj hj=>(HKS.out j hj).2));clear hiw how2;go_upto_region 27 with (fail);refine wp_region_flow (by kernel_rfl) depsMq27 (by kernel_rfl) (lN B) (λvs=>⟨#[.slice A n c,.slice A2 n2 c2,undef,undef,.pointer (some ⟨g4,0,none⟩),(vs.getD 6 (.bool false)),(vs.getD 7 (.bool false)),(vs.getD 8 (.bool false)),.pointer (some ⟨gg,0,none⟩),.pointer (some ⟨gh,0,none⟩),.pointer (some ⟨g5,0,none⟩),.pointer (some ⟨g6,0,none⟩),.slice Ac mc cq,.int .i64 0,u14,.slice Aw mw cw,.int .i64 ↑k,.slice A n c,.agg #[.slice A n c,.int .i64 0],.pointer (some ⟨gg,0,none⟩),.slice A2 n2 c2,.agg #[.slice A2 n2 c2,.int .i64 0],.pointer (some ⟨gh,0,none⟩),.slice (some ⟨ga,0,none⟩) 3 3,.slice (some ⟨gb,0,none⟩) 3 3,.pointer (some ⟨gg,0,none⟩),.slice A5 m5 c5,.agg #[.string ⟨#[114]⟩,.slice (some ⟨ga,0,none⟩) 3 3,.slice none 0 0,.slice A5 m5 c5],.slice (some ⟨gc,0,none⟩) 3 3,.slice (some ⟨gd,0,none⟩) 3 3,.pointer (some ⟨gg,0,none⟩),.slice A6 m6 c6,.agg #[.string ⟨#[111]⟩,.slice (some ⟨gc,0,none⟩) 3 3,.slice none 0 0,.slice A6 m6 c6],.pointer (some ⟨gh,0,none⟩),.int .i64 ↑k5,.int .i64 0,.bool false,u37,u38,u39,u40,u41,u42,u43,u44,u45,u46,u47,u48,u49,u50,u51,u52,u53,u54,u55,u56,u57,u58,u59,u60,u61,u62,u63,u64,u65,u66,u67,u68,u69,u70,u71,u72,u73,u74,u75,u76,u77,u78,u79,u80,u81,u82,u83,u84,u85,u86,u87,u88,.pointer (some ⟨gg,0,none⟩),.int .i64 ↑k6,.int .i64 ↑k,.bool true,.bool true,.pointer (some ⟨g5,3,none⟩),.slice A5 m5 c5,.int .i64 ↑m5,.bool false,.bool false,.bool false,undef,undef,undef,.bool false,u104,u105,u106,u107,u108,u109,u110,u111,u112,u113,u114,u115,u116,u117,u118,u119,u120,u121,u122,u123,u124,u125,u126,u127,(vs.getD 0 (.bool false)),(vs.getD 1 (.bool false)),(vs.getD 2 (.bool false)),(vs.getD 3 (.bool false)),(vs.getD 4 (.bool false))],[]⟩) 9 (by decide) (λL V=>E30 w wr B V/\ ∃X,dJ V g4 29 X/\X.length=4/\(L 5=true->X=[.string ⟨#[114]⟩,.slice (some ⟨ga,0,none⟩) 3 3,.slice none 0 0,.slice A5 m5 c5])) lkMq27 UMq27 (FMq27 B (.slice Ac mc cq) (.slice Aw mw cw) [.string ⟨#[114]⟩,.slice (some ⟨ga,0,none⟩) 3 3,.slice none 0 0,.slice A5 m5 c5] [.string ⟨#[111]⟩,.slice (some ⟨gc,0,none⟩) 3 3,.slice none 0 0,.slice A6 m6 c6]) (λ_ _=>True) lkMq27_ok (FMq27_st B (.slice Ac mc cq) (.slice Aw mw cw) [.string ⟨#[114]⟩,.slice (some ⟨ga,0,none⟩) 3 3,.slice none 0 0,.slice A5 m5 c5] [.string ⟨#[111]⟩,.slice (some ⟨gc,0,none⟩) 3 3,.slice none 0 0,.slice A6 m6 c6]) [_,_,_,_,_,.bool false,_,_,_] rfl rfl (λ_=>trivial) (⟨⟨lN.below (Below.refl _ _).drew,aa HS.out.bel (Below.refl _ _).drew⟩,_,HS.out.k4.drew,rfl,λh=>by cases h⟩) ?_ ?_
      ·intro L i vs V hi hvl hL hd hG hF Rh;obtain ⟨v0,WP,rfl,hv0⟩:=vs_cons hvl;obtain ⟨v1,vs1,rfl,hv1⟩:=vs_cons hv0;obtain ⟨v2,vs2,rfl,hv2⟩:=vs_cons hv1;obtain ⟨v3,vs3,rfl,hv3⟩:=vs_cons hv2;obtain ⟨v4,vs4,rfl,hv4⟩:=vs_cons hv3;obtain ⟨v5,vs5,rfl,hv5⟩:=vs_cons hv4;obtain ⟨v6,vs6,rfl,hv6⟩:=vs_cons hv5;obtain ⟨v7,vs7,rfl,hv7⟩:=vs_cons hv6;obtain ⟨v8,vs8,rfl,hv8⟩:=vs_cons hv7;obtain rfl:=vs_nil hv8;clear hvl hv0 hv1 hv2 hv3 hv4 hv5 hv6 hv7 hv8;have hi:i<9:=hi;have HG:=hide hG;have HF:=hide hF;have HD:=hide hd;have Hr:=hide hL;have UB:=hide Rh;clear hG hF hd hL Rh;obtain rfl|rfl|rfl|rfl|rfl|rfl|rfl|rfl|rfl:i=0\/i=1\/i=2\/i=3\/i=4\/i=5\/i=6\/i=7\/i=8:=by omega
       ·obtain ⟨LTR,r0,r1,r2,r3⟩:=(Si.out.up30 Uv.out (HS.out.up.trans HG.out.1.up)).ats4;refine wpOp_step rfl (λK1 hK=>?_);have HK:=hide hK;clear hK;go_simp;exact HK.out _ _ ⟨_,rfl,rfl,⟨HG.out.1,HG.out.2⟩,.inl (lN.below (Below.refl _ _))⟩
       ·refine wpOp_step rfl (λK1 hK=>?_);have HK:=hide hK;clear hK;go_simp;exact HK.out _ _ ⟨_,rfl,rfl,⟨HG.out.1,HG.out.2⟩,.inl (lN.below (Below.refl _ _))⟩
       ·obtain ⟨LTO,o0,o1,o2,o3⟩:=(Sg.out.up30 Uw.out (HS.out.up.trans HG.out.1.up)).ats4;refine wpOp_step rfl (λK1 hK=>?_);have HK:=hide hK;clear hK;go_simp;exact HK.out _ _ ⟨_,rfl,rfl,⟨HG.out.1,HG.out.2⟩,.inl (lN.below (Below.refl _ _))⟩
       ·obtain rfl:v2=.agg [.string ⟨#[111]⟩,.slice (some ⟨gc,0,none⟩) 3 3,.slice none 0 0,.slice A6 m6 c6].toArray:=(HF.out 2 (HD.out 2 (by simp[depsMq27]))).2 (λ_ h=>by cases h);refine wpOp_step rfl (λK1 hK=>?_);have HK:=hide hK;clear hK;go_simp;exact HK.out _ _ ⟨_,rfl,⟨_,rfl,Nat.le_trans HO.out.2.2.2.2 (Nat.le_trans HS.out.up.1 HG.out.1.up.1),dJ.made _ _ _⟩,⟨HG.out.1.below ae,by obtain ⟨X,h1,h2⟩:=HG.out.2;exact ⟨X,h1.below ae,h2⟩⟩,.inl (lN.below ae)⟩
       ·refine wpOp_step rfl (λK1 hK=>?_);have HK:=hide hK;clear hK;go_simp;exact HK.out _ _ ⟨_,rfl,rfl,⟨HG.out.1,HG.out.2⟩,.inl (lN.below (Below.refl _ _))⟩
       ·obtain rfl:v0=.agg [.string ⟨#[114]⟩,.slice (some ⟨ga,0,none⟩) 3 3,.slice none 0 0,.slice A5 m5 c5].toArray:=(HF.out 0 (HD.out 0 (by simp[depsMq27]))).2 (λ_ h=>by cases h);obtain ⟨X,hX,hX4,_⟩:=HG.out.2;obtain ⟨X0,X1,X2,X3,rfl⟩: ∃a b c d,X=[a,b,c,d]:=by match X,hX4 with| [a,b,c,d],_=>exact ⟨a,b,c,d,rfl⟩
        have HX:=hide hX;obtain ⟨LT4,z0,z1,z2,z3⟩:=hX.ats4;have zf0:=hX.fz 0;have zf1:=hX.fz 1;have zf2:=hX.fz 2;have zf3:=hX.fz 3;have O8:=hide (show g4<B by obtain ⟨_,_,_,_,_⟩:=HO.out;omega);clear hX hX4;refine wpOp_step rfl (λK1 hK=>?_);have HK:=hide hK;clear hK;go_simp;exact HK.out _ _ ⟨.bool false,rfl,trivial,⟨HG.out.1.set4 O8.out (by have:=HO.out.1;omega),_,HX.out.set4 rfl,rfl,λ_=>rfl⟩,.inl ((lN.grown (grown4 _ _ _ _ _ _) O8.out))⟩
       ·obtain rfl:v1=(.slice Ac mc cq):=(HF.out 1 (HD.out 1 (by simp[depsMq27]))).2 (λ_ h=>by cases h);refine wpOp_step rfl (λK1 hK=>?_);have HK:=hide hK;clear hK;go_simp;exact HK.out _ _ ⟨_,rfl,rfl,⟨HG.out.1,HG.out.2⟩,.inl (lN.below (Below.refl _ _))⟩
       ·obtain ⟨d,rfl,hd,hb⟩: ∃d,v3=.slice (some ⟨d,0,none⟩) 1 1/\B<=d/\dJ V d 29 [.string ⟨#[111]⟩,.slice (some ⟨gc,0,none⟩) 3 3,.slice none 0 0,.slice A6 m6 c6]:=(HF.out 3 (HD.out 3 (by simp[depsMq27]))).2 (λ_ h=>by cases h);have R6:=hide hb;clear hb;refine wpOp_step rfl (λK1 hK=>?_);have HK:=hide hK;clear hK;go_simp;exact HK.out _ _ ⟨_,rfl,⟨_,rfl,hd,R6.out⟩,⟨HG.out.1,HG.out.2⟩,.inl (lN.below (Below.refl _ _))⟩
       ·obtain rfl:v4=(.slice Aw mw cw):=(HF.out 4 (HD.out 4 (by simp[depsMq27]))).2 (λ_ h=>by cases h);refine wpOp_step rfl (λK1 hK=>?_);have HK:=hide hK;clear hK;go_simp;exact HK.out _ _ ⟨_,rfl,rfl,⟨HG.out.1,HG.out.2⟩,.inl (lN.below (Below.refl _ _))⟩
      ·intro L vs V hL hvl hG hF;obtain ⟨v0,WP,rfl,hv0⟩:=vs_cons hvl;obtain ⟨v1,vs1,rfl,hv1⟩:=vs_cons hv0;obtain ⟨v2,vs2,rfl,hv2⟩:=vs_cons hv1;obtain ⟨v3,vs3,rfl,hv3⟩:=vs_cons hv2;obtain ⟨v4,vs4,rfl,hv4⟩:=vs_cons hv3;obtain ⟨v5,vs5,rfl,hv5⟩:=vs_cons hv4;obtain ⟨v6,vs6,rfl,hv6⟩:=vs_cons hv5;obtain ⟨v7,vs7,rfl,hv7⟩:=vs_cons hv6;obtain ⟨v8,vs8,rfl,hv8⟩:=vs_cons hv7;obtain rfl:=vs_nil hv8;clear hvl hv0 hv1 hv2 hv3 hv4 hv5 hv6 hv7 hv8;have HG:=hide hG;have HF:=hide hF;have HL:=hide hL;clear hG hF hL;obtain rfl:v6=(.slice Ac mc cq):=HF.out 6 (by show 6<9;omega) rfl;obtain ⟨d,rfl,hd,hb⟩: ∃d,v7=.slice (some ⟨d,0,none⟩) 1 1/\B<=d/\dJ V d 29 [.string ⟨#[111]⟩,.slice (some ⟨gc,0,none⟩) 3 3,.slice none 0 0,.slice A6 m6 c6]:=HF.out 7 (by show 7<9;omega) rfl;obtain rfl:v8=(.slice Aw mw cw):=HF.out 8 (by show 8<9;omega) rfl;have R6:=hide hb;obtain ⟨X,hX,_,hX5⟩:=HG.out.2;obtain rfl:=hX5 (HL.out 5 (by show 5<9;omega));have HX:=hide hX;have HE:=hide HG.out.1;clear hb hX hX5;go_wp2_with fail;refine bodyPost_ret (v:=.tuple #[.agg ([.string ⟨#[114]⟩,.slice (some ⟨ga,0,none⟩) 3 3,.slice none 0 0,.slice A5 m5 c5]:List Value).toArray,.slice Ac mc cq,.slice (some ⟨d,0,none⟩) 1 1,.slice Aw mw cw]) (results_c1t3 (cs:=[.string ⟨#[114]⟩,.slice (some ⟨ga,0,none⟩) 3 3,.slice none 0 0,.slice A5 m5 c5]) rfl _ _ g4 _ _ _ _ rfl rfl rfl rfl HX.out.all Tryz.underlying29 rfl (by kernel_rfl)) rfl ?_;exact ⟨⟨_,A5,m5,c5,Ac,mc,cq,_,Aw,mw,cw,rows,orows,cs,ws,rfl,(xP.out.up30 (HS.out.up.trans HE.out.up)).inn,(Ev.out.up30 (HS.out.up.trans HE.out.up)).inn,iK (BP.out.upB HE.out.up HO.out.2.2.2.2) HMC.out,cells_quarsR R6.out (Ef.out.up30 (HS.out.up.trans HE.out.up)).inn (Mg.out.up30 (HS.out.up.trans HE.out.up)).inn,iK (HOW.out.upW HE.out.up HO.out.2.2.2.2) hmw,U2.out,Sz.out,HGOOD.out,HND2.out,by rw[HMC.out];exact hmc4,by omega⟩,HE.out.bel⟩
    ·have k0:¬(0:Int)<(k:Int):=by omega
     obtain ⟨Aw,cw,rfl,hiw⟩:=HOW.out.inn;obtain ⟨mw,hmw⟩: ∃m,ws.length=m:=⟨_,rfl⟩;have how2:=HOW.out;rw[hmw]at how2⊢;have HOW:=hide how2;have HND2:=hide (show (cs.map Chk.name).Nodup by rw[Pf.out];exact nodup30 Hq.out (λj hj=>(HKS.out j hj).2));clear hiw how2;go_upto_region 27 with (fail);refine wp_region_flow (by kernel_rfl) depsMq27 (by kernel_rfl) (lN B) (λvs=>⟨#[.slice A n c,.slice A2 n2 c2,undef,undef,.pointer (some ⟨g4,0,none⟩),(vs.getD 6 (.bool false)),(vs.getD 7 (.bool false)),(vs.getD 8 (.bool false)),.pointer (some ⟨gg,0,none⟩),.pointer (some ⟨gh,0,none⟩),.pointer (some ⟨g5,0,none⟩),.pointer (some ⟨g6,0,none⟩),.slice Ac mc cq,.int .i64 0,u14,.slice Aw mw cw,.int .i64 ↑k,.slice A n c,.agg #[.slice A n c,.int .i64 0],.pointer (some ⟨gg,0,none⟩),.slice A2 n2 c2,.agg #[.slice A2 n2 c2,.int .i64 0],.pointer (some ⟨gh,0,none⟩),.slice (some ⟨ga,0,none⟩) 3 3,.slice (some ⟨gb,0,none⟩) 3 3,.pointer (some ⟨gg,0,none⟩),.slice A5 m5 c5,.agg #[.string ⟨#[114]⟩,.slice (some ⟨ga,0,none⟩) 3 3,.slice none 0 0,.slice A5 m5 c5],.slice (some ⟨gc,0,none⟩) 3 3,.slice (some ⟨gd,0,none⟩) 3 3,.pointer (some ⟨gg,0,none⟩),.slice A6 m6 c6,.agg #[.string ⟨#[111]⟩,.slice (some ⟨gc,0,none⟩) 3 3,.slice none 0 0,.slice A6 m6 c6],.pointer (some ⟨gh,0,none⟩),.int .i64 ↑k5,.int .i64 0,.bool false,u37,u38,u39,u40,u41,u42,u43,u44,u45,u46,u47,u48,u49,u50,u51,u52,u53,u54,u55,u56,u57,u58,u59,u60,u61,u62,u63,u64,u65,u66,u67,u68,u69,u70,u71,u72,u73,u74,u75,u76,u77,u78,u79,u80,u81,u82,u83,u84,u85,u86,u87,u88,.pointer (some ⟨gg,0,none⟩),.int .i64 ↑k6,.int .i64 ↑k,.bool false,.bool false,undef,undef,undef,undef,.bool false,.bool false,undef,undef,undef,.bool false,u104,u105,u106,u107,u108,u109,u110,u111,u112,u113,u114,u115,u116,u117,u118,u119,u120,u121,u122,u123,u124,u125,u126,u127,(vs.getD 0 (.bool false)),(vs.getD 1 (.bool false)),(vs.getD 2 (.bool false)),(vs.getD 3 (.bool false)),(vs.getD 4 (.bool false))],[]⟩) 9 (by decide) (λL V=>E30 w wr B V/\ ∃X,dJ V g4 29 X/\X.length=4/\(L 5=true->X=[.string ⟨#[114]⟩,.slice (some ⟨ga,0,none⟩) 3 3,.slice none 0 0,.slice A5 m5 c5])) lkMq27 UMq27 (FMq27 B (.slice Ac mc cq) (.slice Aw mw cw) [.string ⟨#[114]⟩,.slice (some ⟨ga,0,none⟩) 3 3,.slice none 0 0,.slice A5 m5 c5] [.string ⟨#[111]⟩,.slice (some ⟨gc,0,none⟩) 3 3,.slice none 0 0,.slice A6 m6 c6]) (λ_ _=>True) lkMq27_ok (FMq27_st B (.slice Ac mc cq) (.slice Aw mw cw) [.string ⟨#[114]⟩,.slice (some ⟨ga,0,none⟩) 3 3,.slice none 0 0,.slice A5 m5 c5] [.string ⟨#[111]⟩,.slice (some ⟨gc,0,none⟩) 3 3,.slice none 0 0,.slice A6 m6 c6]) [_,_,_,_,_,.bool false,_,_,_] rfl rfl (λ_=>trivial) (⟨⟨lN.below (Below.refl _ _).drew,aa HS.out.bel (Below.refl _ _).drew⟩,_,HS.out.k4.drew,rfl,λh=>by cases h⟩) ?_ ?_
     ·intro L i vs V hi hvl hL hd hG hF Rh;obtain ⟨v0,WP,rfl,hv0⟩:=vs_cons hvl;obtain ⟨v1,vs1,rfl,hv1⟩:=vs_cons hv0;obtain ⟨v2,vs2,rfl,hv2⟩:=vs_cons hv1;obtain ⟨v3,vs3,rfl,hv3⟩:=vs_cons hv2;obtain ⟨v4,vs4,rfl,hv4⟩:=vs_cons hv3;obtain ⟨v5,vs5,rfl,hv5⟩:=vs_cons hv4;obtain ⟨v6,vs6,rfl,hv6⟩:=vs_cons hv5;obtain ⟨v7,vs7,rfl,hv7⟩:=vs_cons hv6;obtain ⟨v8,vs8,rfl,hv8⟩:=vs_cons hv7;obtain rfl:=vs_nil hv8;clear hvl hv0 hv1 hv2 hv3 hv4 hv5 hv6 hv7 hv8;have hi:i<9:=hi;have HG:=hide hG;have HF:=hide hF;have HD:=hide hd;have Hr:=hide hL;have UB:=hide Rh;clear hG hF hd hL Rh;obtain rfl|rfl|rfl|rfl|rfl|rfl|rfl|rfl|rfl:i=0\/i=1\/i=2\/i=3\/i=4\/i=5\/i=6\/i=7\/i=8:=by omega
      ·obtain ⟨LTR,r0,r1,r2,r3⟩:=(Si.out.up30 Uv.out (HS.out.up.trans HG.out.1.up)).ats4;refine wpOp_step rfl (λK1 hK=>?_);have HK:=hide hK;clear hK;go_simp;exact HK.out _ _ ⟨_,rfl,rfl,⟨HG.out.1,HG.out.2⟩,.inl (lN.below (Below.refl _ _))⟩
      ·refine wpOp_step rfl (λK1 hK=>?_);have HK:=hide hK;clear hK;go_simp;exact HK.out _ _ ⟨_,rfl,rfl,⟨HG.out.1,HG.out.2⟩,.inl (lN.below (Below.refl _ _))⟩
      ·obtain ⟨LTO,o0,o1,o2,o3⟩:=(Sg.out.up30 Uw.out (HS.out.up.trans HG.out.1.up)).ats4;refine wpOp_step rfl (λK1 hK=>?_);have HK:=hide hK;clear hK;go_simp;exact HK.out _ _ ⟨_,rfl,rfl,⟨HG.out.1,HG.out.2⟩,.inl (lN.below (Below.refl _ _))⟩
      ·obtain rfl:v2=.agg [.string ⟨#[111]⟩,.slice (some ⟨gc,0,none⟩) 3 3,.slice none 0 0,.slice A6 m6 c6].toArray:=(HF.out 2 (HD.out 2 (by simp[depsMq27]))).2 (λ_ h=>by cases h);refine wpOp_step rfl (λK1 hK=>?_);have HK:=hide hK;clear hK;go_simp;exact HK.out _ _ ⟨_,rfl,⟨_,rfl,Nat.le_trans HO.out.2.2.2.2 (Nat.le_trans HS.out.up.1 HG.out.1.up.1),dJ.made _ _ _⟩,⟨HG.out.1.below ae,by obtain ⟨X,h1,h2⟩:=HG.out.2;exact ⟨X,h1.below ae,h2⟩⟩,.inl (lN.below ae)⟩
      ·refine wpOp_step rfl (λK1 hK=>?_);have HK:=hide hK;clear hK;go_simp;exact HK.out _ _ ⟨_,rfl,rfl,⟨HG.out.1,HG.out.2⟩,.inl (lN.below (Below.refl _ _))⟩
      ·obtain rfl:v0=.agg [.string ⟨#[114]⟩,.slice (some ⟨ga,0,none⟩) 3 3,.slice none 0 0,.slice A5 m5 c5].toArray:=(HF.out 0 (HD.out 0 (by simp[depsMq27]))).2 (λ_ h=>by cases h);obtain ⟨X,hX,hX4,_⟩:=HG.out.2;obtain ⟨X0,X1,X2,X3,rfl⟩: ∃a b c d,X=[a,b,c,d]:=by match X,hX4 with| [a,b,c,d],_=>exact ⟨a,b,c,d,rfl⟩
       have HX:=hide hX;obtain ⟨LT4,z0,z1,z2,z3⟩:=hX.ats4;have zf0:=hX.fz 0;have zf1:=hX.fz 1;have zf2:=hX.fz 2;have zf3:=hX.fz 3;have O8:=hide (show g4<B by obtain ⟨_,_,_,_,_⟩:=HO.out;omega);clear hX hX4;refine wpOp_step rfl (λK1 hK=>?_);have HK:=hide hK;clear hK;go_simp;exact HK.out _ _ ⟨.bool false,rfl,trivial,⟨HG.out.1.set4 O8.out (by have:=HO.out.1;omega),_,HX.out.set4 rfl,rfl,λ_=>rfl⟩,.inl ((lN.grown (grown4 _ _ _ _ _ _) O8.out))⟩
      ·obtain rfl:v1=(.slice Ac mc cq):=(HF.out 1 (HD.out 1 (by simp[depsMq27]))).2 (λ_ h=>by cases h);refine wpOp_step rfl (λK1 hK=>?_);have HK:=hide hK;clear hK;go_simp;exact HK.out _ _ ⟨_,rfl,rfl,⟨HG.out.1,HG.out.2⟩,.inl (lN.below (Below.refl _ _))⟩
      ·obtain ⟨d,rfl,hd,hb⟩: ∃d,v3=.slice (some ⟨d,0,none⟩) 1 1/\B<=d/\dJ V d 29 [.string ⟨#[111]⟩,.slice (some ⟨gc,0,none⟩) 3 3,.slice none 0 0,.slice A6 m6 c6]:=(HF.out 3 (HD.out 3 (by simp[depsMq27]))).2 (λ_ h=>by cases h);have R6:=hide hb;clear hb;refine wpOp_step rfl (λK1 hK=>?_);have HK:=hide hK;clear hK;go_simp;exact HK.out _ _ ⟨_,rfl,⟨_,rfl,hd,R6.out⟩,⟨HG.out.1,HG.out.2⟩,.inl (lN.below (Below.refl _ _))⟩
      ·obtain rfl:v4=(.slice Aw mw cw):=(HF.out 4 (HD.out 4 (by simp[depsMq27]))).2 (λ_ h=>by cases h);refine wpOp_step rfl (λK1 hK=>?_);have HK:=hide hK;clear hK;go_simp;exact HK.out _ _ ⟨_,rfl,rfl,⟨HG.out.1,HG.out.2⟩,.inl (lN.below (Below.refl _ _))⟩
     ·intro L vs V hL hvl hG hF;obtain ⟨v0,WP,rfl,hv0⟩:=vs_cons hvl;obtain ⟨v1,vs1,rfl,hv1⟩:=vs_cons hv0;obtain ⟨v2,vs2,rfl,hv2⟩:=vs_cons hv1;obtain ⟨v3,vs3,rfl,hv3⟩:=vs_cons hv2;obtain ⟨v4,vs4,rfl,hv4⟩:=vs_cons hv3;obtain ⟨v5,vs5,rfl,hv5⟩:=vs_cons hv4;obtain ⟨v6,vs6,rfl,hv6⟩:=vs_cons hv5;obtain ⟨v7,vs7,rfl,hv7⟩:=vs_cons hv6;obtain ⟨v8,vs8,rfl,hv8⟩:=vs_cons hv7;obtain rfl:=vs_nil hv8;clear hvl hv0 hv1 hv2 hv3 hv4 hv5 hv6 hv7 hv8;have HG:=hide hG;have HF:=hide hF;have HL:=hide hL;clear hG hF hL;obtain rfl:v6=(.slice Ac mc cq):=HF.out 6 (by show 6<9;omega) rfl;obtain ⟨d,rfl,hd,hb⟩: ∃d,v7=.slice (some ⟨d,0,none⟩) 1 1/\B<=d/\dJ V d 29 [.string ⟨#[111]⟩,.slice (some ⟨gc,0,none⟩) 3 3,.slice none 0 0,.slice A6 m6 c6]:=HF.out 7 (by show 7<9;omega) rfl;obtain rfl:v8=(.slice Aw mw cw):=HF.out 8 (by show 8<9;omega) rfl;have R6:=hide hb;obtain ⟨X,hX,_,hX5⟩:=HG.out.2;obtain rfl:=hX5 (HL.out 5 (by show 5<9;omega));have HX:=hide hX;have HE:=hide HG.out.1;clear hb hX hX5;go_wp2_with fail;refine bodyPost_ret (v:=.tuple #[.agg ([.string ⟨#[114]⟩,.slice (some ⟨ga,0,none⟩) 3 3,.slice none 0 0,.slice A5 m5 c5]:List Value).toArray,.slice Ac mc cq,.slice (some ⟨d,0,none⟩) 1 1,.slice Aw mw cw]) (results_c1t3 (cs:=[.string ⟨#[114]⟩,.slice (some ⟨ga,0,none⟩) 3 3,.slice none 0 0,.slice A5 m5 c5]) rfl _ _ g4 _ _ _ _ rfl rfl rfl rfl HX.out.all Tryz.underlying29 rfl (by kernel_rfl)) rfl ?_;exact ⟨⟨_,A5,m5,c5,Ac,mc,cq,_,Aw,mw,cw,rows,orows,cs,ws,rfl,(xP.out.up30 (HS.out.up.trans HE.out.up)).inn,(Ev.out.up30 (HS.out.up.trans HE.out.up)).inn,iK (BP.out.upB HE.out.up HO.out.2.2.2.2) HMC.out,cells_quarsR R6.out (Ef.out.up30 (HS.out.up.trans HE.out.up)).inn (Mg.out.up30 (HS.out.up.trans HE.out.up)).inn,iK (HOW.out.upW HE.out.up HO.out.2.2.2.2) hmw,U2.out,Sz.out,HGOOD.out,HND2.out,by rw[HMC.out];exact hmc4,by omega⟩,HE.out.bel⟩
end Go.Proofs.YtopjjlmfilgngaaGreatDoor
