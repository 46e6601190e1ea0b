/-
  warehouselaw30.made. (Printed by gen_m30.py.)
-/
import Derived.Test.YtopjjlmfilgngaaGreatDoorGbh
namespace Go.Proofs.YtopjjlmfilgngaaGreatDoor
set_option maxHeartbeats 8000000
set_option maxRecDepth 100000
open Go.RowKit Go.Maps
set_option linter.unusedSimpArgs false
set_option linter.unusedVariables false
theorem Jm {V:World}{d k:Nat}(h:jo V d 9 [.string ⟨#[97]⟩,.string ⟨#[98]⟩,.string ⟨#[99]⟩,.string ⟨#[100]⟩,.string ⟨#[101]⟩])(a:k<5):V.cell? ⟨d,k,none⟩=some (.string (om k)):=by
 have a:k=0\/k=1\/k=2\/k=3\/k=4:=by omega
 rcases a with rfl|rfl|rfl|rfl|rfl<;>exact h.at _ rfl
theorem jo.set14 {w:World}{g:Nat}{t:TypeId}{l:List Value}(h:jo w g t l){a0 a1 a2 a3 a4 a5 a6 a7 a8 a9 a10 a11 a12 a13:Value}(b:l.length=14):jo ((((((((((((((w.setCell ⟨g,0,none⟩ a0).setCell ⟨g,1,none⟩ a1).setCell ⟨g,2,none⟩ a2).setCell ⟨g,3,none⟩ a3).setCell ⟨g,4,none⟩ a4).setCell ⟨g,5,none⟩ a5).setCell ⟨g,6,none⟩ a6).setCell ⟨g,7,none⟩ a7).setCell ⟨g,8,none⟩ a8).setCell ⟨g,9,none⟩ a9).setCell ⟨g,10,none⟩ a10).setCell ⟨g,11,none⟩ a11).setCell ⟨g,12,none⟩ a12).setCell ⟨g,13,none⟩ a13) g t [a0,a1,a2,a3,a4,a5,a6,a7,a8,a9,a10,a11,a12,a13]:=by
 have a:=(((((((((((((h.set 0 a0).set 1 a1).set 2 a2).set 3 a3).set 4 a4).set 5 a5).set 6 a6).set 7 a7).set 8 a8).set 9 a9).set 10 a10).set 11 a11).set 12 a12).set 13 a13
 match l,b with
 | [_,_,_,_,_,_,_,_,_,_,_,_,_,_],_=>exact a
theorem Nv (w:World)(g:Nat)(a b h i j k l m n o c d e f:Value):w.grownBy ((((((((((((((w.setCell ⟨g,0,none⟩ a).setCell ⟨g,1,none⟩ b).setCell ⟨g,2,none⟩ h).setCell ⟨g,3,none⟩ i).setCell ⟨g,4,none⟩ j).setCell ⟨g,5,none⟩ k).setCell ⟨g,6,none⟩ l).setCell ⟨g,7,none⟩ m).setCell ⟨g,8,none⟩ n).setCell ⟨g,9,none⟩ o).setCell ⟨g,10,none⟩ c).setCell ⟨g,11,none⟩ d).setCell ⟨g,12,none⟩ e).setCell ⟨g,13,none⟩ f) (some g):=
 ((((((((((((iO.trans iO).trans iO).trans iO).trans iO).trans iO).trans iO).trans iO).trans iO).trans iO).trans iO).trans iO).trans iO).trans iO
theorem gZ.own {B g:Nat}{a b c:World}(h:gZ B a b)(f:b.grownBy c (some g))(j:a.heap.size<=g):gZ B a c:=
 ⟨Nat.le_trans h.1 f.size,λk i d=>(f.block k (Nat.lt_of_lt_of_le d h.1) λe=>by injection e with e;omega).trans (h.2 k i d)⟩
def Pz (s:ByteArray):Prop:=s=tu\/s=N8\/s=nV
theorem Pz.str {s:ByteArray}(h:Pz s):Str s:=by
 rcases h with rfl|rfl|rfl<;>(unfold Str;decide)
theorem LF {V:World}{B d a b c q:Nat}(hd:jo V d 43 [.slice (some ⟨a,0,none⟩) 1 1,.slice (some ⟨b,0,none⟩) 1 1,.slice (some ⟨c,0,none⟩) 1 1])(f:B<=a/\jo V a 9 [.string tu])(g:B<=b/\jo V b 9 [.string N8])(h:B<=c/\jo V c 9 [.string nV])(i:q<3):
  ∃e s,V.cell? ⟨d,q,none⟩=some (.slice (some ⟨e,0,none⟩) 1 1)/\B<=e/\jo V e 9 [.string s]/\Pz s:=by
 have i:q=0\/q=1\/q=2:=by omega
 rcases i with rfl|rfl|rfl
 ·exact⟨a,tu,hd.at 0 rfl,f.1,f.2,.inl rfl⟩
 ·exact⟨b,N8,hd.at 1 rfl,g.1,g.2,.inr (.inl rfl)⟩
 ·exact⟨c,nV,hd.at 2 rfl,h.1,h.2,.inr (.inr rfl)⟩
theorem zx {a:World}{g b:Nat}{s:ByteArray}(hs:Str s)(d:a.heap.size=g)(c:b<=g):Sl (a.alloc (.cells #[.string s] 9)) (BS b (λ_=>False) [9,89] (a.alloc (.cells #[.string s] 9))) (some ⟨g,0,none⟩) 1 1 [s]:=by
 subst d;exact zR (xs:=[s]) (jo.made _ _ _) c rfl (by decide) (by simpa using hs)
theorem Hy {a:World}{g b:Nat}(d:a.heap.size=g)(c:b<=g):Sl (a.alloc (.cells (Ev.flatMap Node.cells).toArray 89)) (BS b (λ_=>False) [9,89] (a.alloc (.cells (Ev.flatMap Node.cells).toArray 89))) (some ⟨g,0,none⟩) 3 3 Ev:=by
 subst d;exact O6 (jo.made _ _ _) c
theorem rQ.mk {b k g:Nat}{V:World}(a:Chk){A':Option Addr}{n' c':Nat}{A'':Option Addr}{n'' c'':Nat}{A3:Option Addr}{n3 c3:Nat}(c:kL a)(d:a.name=om k)(e:Str a.table)(f:jo V g 48 (fZ a A' n' c' A'' n'' c'' A3 n3 c3))(h:JP b V A' n' c' A'' n'' c'' A3 n3 c3 a):rQ b k V g:=⟨a,A',n',c',A'',n'',c'',A3,n3,c3,c,d,e,f,h⟩
theorem xn {k:Nat}{p:Int}(a:p=0\/p=1):(∀s,Pz s-> ∀x:Int,x=0\/x=1->kL (nI (om k) nR x [s] ⟨#[]⟩ [] 0 [] p))/\kL (nI (om k) nR 2 [nV] ⟨#[]⟩ [] 3 [] p)/\kL (nI (om k) nR 3 [tu] nO [tu] 0 [] p)/\kL (nI (om k) nR 4 [] ⟨#[]⟩ [] 0 Ev p):=by
 refine⟨λs hs x b=>⟨p,a,?_⟩,⟨p,a,?_⟩,⟨p,a,?_⟩,⟨p,a,?_⟩⟩
 ·rcases hs with rfl|rfl|rfl<;>rcases b with rfl|rfl<;>simp[qy,nI]
 ·simp[qy,nI]
 ·simp[qy,nI]
 ·simp[qy,nI]
theorem KN (a:World): ∃b,b=(((a.alloc (.cells #[.string ⟨#[110,97,109,101]⟩] 9)).alloc (.cells #[.string ⟨#[105,100]⟩] 9)).alloc (.cells #[.string ⟨#[118]⟩] 9)).alloc (.cells #[.slice (some ⟨a.heap.size,0,none⟩) 1 1,.slice (some ⟨a.heap.size+1,0,none⟩) 1 1,.slice (some ⟨a.heap.size+1+1,0,none⟩) 1 1] 43)/\Below a.heap.size a b/\jo b a.heap.size 9 [.string tu]/\jo b (a.heap.size+1) 9 [.string N8]/\jo b (a.heap.size+1+1) 9 [.string nV]/\jo b (a.heap.size+1+1+1) 43 [.slice (some ⟨a.heap.size,0,none⟩) 1 1,.slice (some ⟨a.heap.size+1,0,none⟩) 1 1,.slice (some ⟨a.heap.size+1+1,0,none⟩) 1 1]:=by
 refine⟨_,rfl,fH below_alloc2 below_alloc2,(jo.made a _ _).below (fH below_alloc2 fI),?_,?_,?_⟩
 ·have h:=jo.made (a.alloc (.cells #[.string ⟨#[110,97,109,101]⟩] 9)) #[.string ⟨#[105,100]⟩] 9;rw[World.size_alloc]at h;exact h.below below_alloc2
 ·have h:=jo.made ((a.alloc (.cells #[.string ⟨#[110,97,109,101]⟩] 9)).alloc (.cells #[.string ⟨#[105,100]⟩] 9)) #[.string ⟨#[118]⟩] 9;rw[World.size_alloc,World.size_alloc]at h;exact h.below fI
 ·have h:=jo.made (((a.alloc (.cells #[.string ⟨#[110,97,109,101]⟩] 9)).alloc (.cells #[.string ⟨#[105,100]⟩] 9)).alloc (.cells #[.string ⟨#[118]⟩] 9)) #[.slice (some ⟨a.heap.size,0,none⟩) 1 1,.slice (some ⟨a.heap.size+1,0,none⟩) 1 1,.slice (some ⟨a.heap.size+1+1,0,none⟩) 1 1] 43;rw[World.size_alloc,World.size_alloc,World.size_alloc]at h;exact h
theorem AX {c:Prop}[Decidable c]{p q:Prop}(a:c)(h:p):if c then p else q:=by rw[if_pos a];exact h
theorem NK {V:World}{g e:Nat}{a b:Value}(h:V.heap[g]?=some (.cells #[a,b] e (0,0))):Src V 2 (some ⟨g,0,none⟩) 1 [a,b]:=
 ⟨rfl,λ_=>⟨g,0,rfl,λj u c=>by
  rw[Nat.zero_add,cell_of_row V g j _ e (0,0) h];simpa using c⟩⟩
theorem Sl.at0 {α:Type}[Rep α]{w:World}{S:Nat->Prop}{A:Option Addr}{n c:Nat}{xs:List α}(h:Sl w S A n c xs)(a:0<n): ∃b o,A=some ⟨b,o,none⟩:=by
 obtain⟨b,o,e,_⟩:=h.2.2.2.2 a;exact⟨b,o,e⟩
theorem L8 {V:World}{S:Nat->Prop}{g i n c:Nat}{xs:List Ent}(h:Sl V S (some ⟨g,i,none⟩) n c xs){q:Nat}(l:q<n): ∃a f d,∃row:List Val,V.cell? ⟨g,i+q*2,none⟩=some (.slice a f d)/\Sl V S a f d row:=by
 obtain⟨b,o,e,_,hi⟩:=h.2.2.2.2 (by omega);injection e with e;injection e with e1 e2;subst e1 e2;obtain⟨m,⟨a,f,d,rfl,j,_⟩,k⟩:=hi q (by rw[h.1];exact l);exact⟨a,f,d,_,k 0 (by simp),j⟩
theorem OL.upO {α:Type}[Rep α]{e:TypeId}{B a:Nat}{T:List TypeId}{V b:World}{v:Value}{xs:List α}(h:OL e a (λz=>B<=z) T V v xs){r:Option Nat}(f:V.grownBy b r)(d: ∀k,r=some k->k<B/\k<a):OL e a (λz=>B<=z) T b v xs:=
 h.grown f λk c=>⟨λq=>by have:=d k c;have:=(h.ty q).1;omega,λq=>by
  have g:=d k c;rcases q with ⟨q,_⟩|⟨q,_⟩<;>omega⟩
theorem OL.upW {α:Type}[Rep α]{e:TypeId}{B b:Nat}{V d:World}{v:Value}{xs:List α}(h:OL e b (λz=>B<=z) [] V v xs)(c:gZ B V d)(f:B<=b):OL e b (λz=>B<=z) [] d v xs:=
 h.kept (λk a=>by
  rcases a with (⟨h1,h2⟩|⟨_,t,ht,_⟩)|a
  ·exact c.2 k h1 (Nat.lt_of_lt_of_le h2 h.base)
  ·cases ht
  ·exact c.2 k (Nat.le_trans f (h.ty a).1) (h.ty a).2.lt) c.1
def qZ:Nat->List Nat
 | 4=>[3]
 | 5=>[2,4]
 | 6=>[1,5]
 | 7=>[6]
 | 8=>[7]
 | 10=>[9]
 | 13=>[12]
 | 14=>[13]
 | 15=>[11,14,5]
 | 16=>[10,15]
 | 17=>[16]
 | 18=>[17]
 | 19=>[8,18]
 | 20=>[19]
 | 21=>[0,20,15]
 | 22=>[21]
 | _=>[]
def xy:Nat->Nat
 | 21=>0
 | 22=>21
 |j=>j
def JZ:Nat->List Nat
 | 20=>[21]
 | _=>[]
def Dx (B a:Nat)(n gg h j e l i k f m:Nat)(o:Value)(ws:List Wvr):Nat->Value->Value->World->Prop
 | 0,v,u,V=>v=o
 | 1,v,u,V=>v=.slice (some ⟨i,k,none⟩) f m
 | 2,v,u,V=>v=.pointer (some ⟨gg,0,none⟩)
 | 3,v,u,V=>v=.slice (some ⟨i,k,none⟩) f m
 | 4,v,u,V=>v=.int .i64 (f:Int)
 | 5,v,u,V=> ∃q:Nat,v=.int .i64 (q:Int)/\q<f
 | 6,v,u,V=> ∃q:Nat,v=.pointer (some ⟨i,k+q*14,none⟩)/\q<f
 | 7,v,u,V=> ∃q:Nat,v=.pointer (some ⟨i,k+q*14,none⟩)/\q<f
 | 8,v,u,V=> ∃s,v=.string s/\Str s
 | 9,v,u,V=>v=.pointer (some ⟨n,3,none⟩)
 | 10,v,u,V=>v=.slice (some ⟨h,j,none⟩) e l
 | 11,v,u,V=>v=.pointer (some ⟨gg,0,none⟩)
 | 12,v,u,V=>v=.pointer (some ⟨n,3,none⟩)
 | 13,v,u,V=>v=.slice (some ⟨h,j,none⟩) e l
 | 14,v,u,V=>v=.int .i64 (e:Int)
 | 15,v,u,V=> ∃q:Nat,v=.int .i64 (q:Int)/\q<e
 | 16,v,u,V=> ∃q:Nat,v=.pointer (some ⟨h,j+q*2,none⟩)/\q<e
 | 17,v,u,V=> ∃q:Nat,v=.pointer (some ⟨h,j+q*2,none⟩)/\q<e
 | 18,v,u,V=> ∃b d c,∃row:List Val,v=.slice b d c/\(Sl V (λz=>B<=z/\z<a) b d c row)/\a<=V.heap.size
 | 19,v,u,V=> ∃s b d c,∃row:List Val,v=.agg #[.string s,.slice b d c]/\(Sl V (λz=>B<=z/\z<a) b d c row)/\a<=V.heap.size/\Str s
 | 20,v,u,V=> ∃g s b d c,∃row:List Val,v=.slice (some ⟨g,0,none⟩) 1 1/\B<=g/\V.heap[g]?=some (.cells #[.string s,.slice b d c] 33 (0,0))/\(Sl V (λz=>B<=z/\z<a) b d c row)/\a<=V.heap.size/\Str s
 | 21,v,u,V=> ∃x:Wvr,B<=a/\OL 33 a (λz=>B<=z) [] V v (ws++[x])
 | 22,v,u,V=> ∃x:Wvr,B<=a/\OL 33 a (λz=>B<=z) [] V v (ws++[x])
 | _,_,_,_=>True
theorem Jd: ∀j,xy j=j\/xy j∈qZ j:=λj=>by
 match j with
 | 21=>exact .inr (by simp[xy,qZ])
 | 22=>exact .inr (by simp[xy,qZ])
 |j=>first|exact .inl rfl|(unfold xy;split<;>first|exact .inl rfl|exact .inr (by simp[qZ]))
theorem JS (B F:Nat)(y gg p D A t r E C w:Nat)(G:Value)(ws:List Wvr): ∀j v u V m,(gZ B) V m->Dx B F y gg p D A t r E C w G ws j v u V->Dx B F y gg p D A t r E C w G ws j v u m:=λj v u V m h q=>by
 match j,q with
 | 0,q=>exact q
 | 1,q=>exact q
 | 2,q=>exact q
 | 3,q=>exact q
 | 4,q=>exact q
 | 5,q=>exact q
 | 6,q=>exact q
 | 7,q=>exact q
 | 8,q=>exact q
 | 9,q=>exact q
 | 10,q=>exact q
 | 11,q=>exact q
 | 12,q=>exact q
 | 13,q=>exact q
 | 14,q=>exact q
 | 15,q=>exact q
 | 16,q=>exact q
 | 17,q=>exact q
 | 18,q=>exact(by obtain⟨f,l,i,row,e,k,b⟩:=q;exact⟨f,l,i,row,e,Sl.keep (λz c=>h.2 z c.1 (Nat.lt_of_lt_of_le c.2 b)) k,Nat.le_trans b h.1⟩)
 | 19,q=>exact(by obtain⟨s,f,l,i,row,e,k,b,o⟩:=q;exact⟨s,f,l,i,row,e,Sl.keep (λz c=>h.2 z c.1 (Nat.lt_of_lt_of_le c.2 b)) k,Nat.le_trans b h.1,o⟩)
 | 20,q=>exact(by obtain⟨g,s,f,l,i,row,e,a,d,k,b,o⟩:=q;exact⟨g,s,f,l,i,row,e,a,(h.2 g a (Array.getElem?_eq_some_iff.1 d).1).trans d,Sl.keep (λz c=>h.2 z c.1 (Nat.lt_of_lt_of_le c.2 b)) k,Nat.le_trans b h.1,o⟩)
 | 21,q=>exact(by obtain⟨x,a,d⟩:=q;exact⟨x,a,d.upW h a⟩)
 | 22,q=>exact(by obtain⟨x,a,d⟩:=q;exact⟨x,a,d.upW h a⟩)
 |(n+23),_=>exact trivial
theorem Ii (B o:Nat)(x gg p D A t r E C w:Nat)(F:Value)(ws:List Wvr): ∀j v u V g,j≠20->j≠21->j≠22->V.heap.size<=g.heap.size->(∀z,B<=z->z<V.heap.size->z<o->g.heap[z]?=V.heap[z]?)->Dx B o x gg p D A t r E C w F ws j v u V->Dx B o x gg p D A t r E C w F ws j v u g:=λj v u V g a b c y h q=>by
 match j,q,a,b,c with
 | 0,q,a,b,c=>exact q
 | 1,q,a,b,c=>exact q
 | 2,q,a,b,c=>exact q
 | 3,q,a,b,c=>exact q
 | 4,q,a,b,c=>exact q
 | 5,q,a,b,c=>exact q
 | 6,q,a,b,c=>exact q
 | 7,q,a,b,c=>exact q
 | 8,q,a,b,c=>exact q
 | 9,q,a,b,c=>exact q
 | 10,q,a,b,c=>exact q
 | 11,q,a,b,c=>exact q
 | 12,q,a,b,c=>exact q
 | 13,q,a,b,c=>exact q
 | 14,q,a,b,c=>exact q
 | 15,q,a,b,c=>exact q
 | 16,q,a,b,c=>exact q
 | 17,q,a,b,c=>exact q
 | 18,q,a,b,c=>exact(by obtain⟨i,m,k,row,e,l,f⟩:=q;exact⟨i,m,k,row,e,Sl.keep (λz d=>h z d.1 (Nat.lt_of_lt_of_le d.2 f) d.2) l,Nat.le_trans f y⟩)
 | 19,q,a,b,c=>exact(by obtain⟨s,i,m,k,row,e,l,f,G⟩:=q;exact⟨s,i,m,k,row,e,Sl.keep (λz d=>h z d.1 (Nat.lt_of_lt_of_le d.2 f) d.2) l,Nat.le_trans f y,G⟩)
 | 20,q,a,b,c=>exact absurd rfl a
 | 21,q,a,b,c=>exact absurd rfl b
 | 22,q,a,b,c=>exact absurd rfl c
 |(n+23),_,_,_,_=>exact trivial
structure E30 (w Wr:World) (B:Nat) (V:World):Prop where
 up:gZ B Wr V
 bel:Below w.heap.size w V
theorem E30.below {w Wr V a:World}{B:Nat}(h:E30 w Wr B V)(hb:Below V.heap.size V a):E30 w Wr B a:=⟨h.up.trans (gZ.below hb),fH h.bel hb⟩
theorem ze (w:World)(g:Nat)(a b c d:Value):w.grownBy ((((w.setCell ⟨g,0,none⟩ a).setCell ⟨g,1,none⟩ b).setCell ⟨g,2,none⟩ c).setCell ⟨g,3,none⟩ d) (some g):=((iO.trans iO).trans iO).trans iO
theorem E30.set4 {w Wr V:World}{B g:Nat}(h:E30 w Wr B V)(e:g<B)(hw:w.heap.size<=g){a b c d:Value}:E30 w Wr B ((((V.setCell ⟨g,0,none⟩ a).setCell ⟨g,1,none⟩ b).setCell ⟨g,2,none⟩ c).setCell ⟨g,3,none⟩ d):=
 ⟨h.up.trans (gZ.grown (ze _ _ _ _ _ _) e),kM h.bel (ze _ _ _ _ _ _) h.bel.size hw⟩
theorem sN {P:Program}{b:Func}{p c e f:Tmp}{ty:TypeId}(h:b.results= #[.cell p ty,.tmp c,.tmp e,.tmp f])(a:Array Value)(w:World)(g:Nat)(cs:List Value)(d:TypeDesc)(i k l:Value)(n:a.getD p undef=.pointer (some ⟨g,0,none⟩))(t:a.getD c undef=i)(u:a.getD e undef=k)(x:a.getD f undef=l)(y: ∀j v,cs[j]?=some v->w.cell? ⟨g,j,none⟩=some v)(A:P.underlying ty=some d)(hd:(match d with| .struct _| .array _ _=>true| _=>false)=true)(hi:(P.info? ty).map (·.size)=some cs.length):
  (results b a).run P w=.ok (.tuple #[.agg cs.toArray,i,k,l]) w:=by
 have m:=iM (P:=P) (fn:={b with results:= #[.cell p ty]}) (p:=p) (ty:=ty) rfl a w g cs d n y A hd hi;have o:a[p]?.getD undef=.pointer (some ⟨g,0,none⟩):=by simpa using n
 have z:(loadVar ty ⟨g,0,none⟩).run P w=.ok (.agg cs.toArray) w:=by
  simp only[results]at m;simpa[o,asAddr,Sem.run_bind,Result.andThen] using m
 have q:a[c]?.getD undef=i:=by simpa using t
 have r:a[e]?.getD undef=k:=by simpa using u
 have s:a[f]?.getD undef=l:=by simpa using x
 simp[results,h,o,q,r,s,asAddr,z]
theorem rX {V:World}{a b:Option Addr}{g m d:Nat}{rows:List Ent}(hb:jo V g 29 [.string ⟨#[111]⟩,.slice a 3 3,.slice none 0 0,.slice b m d])(c:In V a 3 3 lQ)(e:In V b m d rows):In V (some ⟨g,0,none⟩) 1 1 [kT rows []]:=
 l6 hb (Cells.one ⟨_,_,_,_,_,_,_,_,_,rfl,c,In.nil_,e,lF.2.2.2.2.2.2.2.2.2.2⟩) rfl (by decide)
theorem OL.upB {α:Type}[Rep α]{e:TypeId}{B a:Nat}{T:List TypeId}{V b:World}{v:Value}{xs:List α}(h:OL e a (λ_=>False) T V v xs)(c:gZ B V b)(g:B<=a):OL e a (λ_=>False) T b v xs:=
 h.up30 ⟨c.1,λk d f=>c.2 k (Nat.le_trans g d) f⟩
theorem Di {ks:List Nat}(h:ks.Nodup)(c: ∀j∈ks,j<5):(ks.map om).Nodup:=by
 induction ks with
 |nil=>simp
 |cons a l g=>
  rw[List.nodup_cons]at h;rw[List.map_cons,List.nodup_cons];refine⟨λf=>?_,g h.2 λj d=>c j (by simp[d])⟩;obtain⟨b,hb,e⟩:=List.mem_map.1 f;have:=Lm (c b (by simp[hb])) (c a (by simp)) e;subst this;exact h.1 hb
def vZ:Nat->List Nat
 | 3=>[2]
 | 5=>[0]
 | 6=>[1]
 | 7=>[3]
 | 8=>[4]
 | _=>[]
def zq:Nat->Nat
 |j=>j
def J6:Nat->List Nat
 | _=>[]
def Dy (B:Nat)(b c:Value)(e a:List Value):Nat->Value->Value->World->Prop
 | 0,v,u,V=>v=.agg e.toArray
 | 1,v,u,V=>v=b
 | 2,v,u,V=>v=.agg a.toArray
 | 3,v,u,V=> ∃d,v=.slice (some ⟨d,0,none⟩) 1 1/\B<=d/\jo V d 29 a
 | 4,v,u,V=>v=c
 | 5,v,u,V=>True
 | 6,v,u,V=>v=b
 | 7,v,u,V=> ∃d,v=.slice (some ⟨d,0,none⟩) 1 1/\B<=d/\jo V d 29 a
 | 8,v,u,V=>v=c
 | _,_,_,_=>True
theorem xz: ∀j,zq j=j\/zq j∈vZ j:=λj=>by
 exact .inl rfl
theorem yH (B:Nat)(f k:Value)(i g:List Value): ∀j v u V b,(gZ B) V b->Dy B f k i g j v u V->Dy B f k i g j v u b:=λj v u V b h q=>by
 match j,q with
 | 0,q=>exact q
 | 1,q=>exact q
 | 2,q=>exact q
 | 3,q=>exact(by obtain⟨d,e,a,c⟩:=q;exact⟨d,e,a,c.up30 a h⟩)
 | 4,q=>exact q
 | 5,q=>exact q
 | 6,q=>exact q
 | 7,q=>exact(by obtain⟨d,e,a,c⟩:=q;exact⟨d,e,a,c.up30 a h⟩)
 | 8,q=>exact q
 |(n+9),_=>exact trivial
def wh:Nat->List Nat
 | 2=>[0,1]
 | 3=>[2]
 | 5=>[4]
 | 7=>[6,5]
 | 8=>[7]
 | 9=>[3,5,8]
 | 11=>[10,9]
 | _=>[]
def EB:Nat->Nat
 | 11=>10
 |j=>j
def Og:Nat->List Nat
 | 10=>[11]
 | _=>[]
def JU (B k gh:Nat):Nat->Value->Value->World->Prop
 | 0,v,u,V=> ∃d,v=.slice (some ⟨d,0,none⟩) 5 5/\B<=d/\jo V d 9 [.string ⟨#[97]⟩,.string ⟨#[98]⟩,.string ⟨#[99]⟩,.string ⟨#[100]⟩,.string ⟨#[101]⟩]
 | 1,v,u,V=>v=.int .i64 (k:Int)
 | 2,v,u,V=> ∃d,v=.pointer (some ⟨d,k,none⟩)/\B<=d/\jo V d 9 [.string ⟨#[97]⟩,.string ⟨#[98]⟩,.string ⟨#[99]⟩,.string ⟨#[100]⟩,.string ⟨#[101]⟩]
 | 3,v,u,V=>v=.string (om k)
 | 4,v,u,V=>v=.pointer (some ⟨gh,0,none⟩)
 | 5,v,u,V=> ∃x:Int,v=.int .i64 x/\0<=x/\x<6
 | 6,v,u,V=>v=.pointer (some ⟨gh,0,none⟩)
 | 7,v,u,V=> ∃x:Int,v=.int .i64 x/\0<=x/\x<4
 | 8,v,u,V=> ∃p:Int,v=.int .i64 p/\(p=0\/p=1)
 | 9,v,u,V=> ∃x p:Int,v=.agg #[.string (om k),.string ⟨#[114]⟩,.int .i64 x,.slice none 0 0,.string ⟨#[]⟩,.slice none 0 0,.int .i64 0,.int .i64 0,.slice none 0 0,.int .i64 0,.int .i64 0,.int .i64 0,.int .i64 0,.int .i64 p]/\0<=x/\x<6/\(p=0\/p=1)
 | 10,v,u,V=> ∃g,v=.pointer (some ⟨g,0,none⟩)/\B<=g/\jo V g 48 [.string ⟨#[]⟩,.string ⟨#[]⟩,.int .i64 0,.slice none 0 0,.string ⟨#[]⟩,.slice none 0 0,.int .i64 0,.int .i64 0,.slice none 0 0,.int .i64 0,.int .i64 0,.int .i64 0,.int .i64 0,.int .i64 0]
 | 11,v,u,V=> ∃g,u=.pointer (some ⟨g,0,none⟩)/\B<=g/\ ∃x p:Int,0<=x/\x<6/\(p=0\/p=1)/\jo V g 48 [.string (om k),.string ⟨#[114]⟩,.int .i64 x,.slice none 0 0,.string ⟨#[]⟩,.slice none 0 0,.int .i64 0,.int .i64 0,.slice none 0 0,.int .i64 0,.int .i64 0,.int .i64 0,.int .i64 0,.int .i64 p]
 | _,_,_,_=>True
theorem Le: ∀j,EB j=j\/EB j∈wh j:=λj=>by
 match j with
 | 11=>exact .inr (by simp[EB,wh])
 |j=>first|exact .inl rfl|(unfold EB;split<;>first|exact .inl rfl|exact .inr (by simp[wh]))
theorem Mw (B k gh:Nat): ∀j v u V c,(gZ B) V c->JU B k gh j v u V->JU B k gh j v u c:=λj v u V c h q=>by
 match j,q with
 | 0,q=>exact(by obtain⟨d,e,a,b⟩:=q;exact⟨d,e,a,b.up30 a h⟩)
 | 1,q=>exact q
 | 2,q=>exact(by obtain⟨d,e,a,b⟩:=q;exact⟨d,e,a,b.up30 a h⟩)
 | 3,q=>exact q
 | 4,q=>exact q
 | 5,q=>exact q
 | 6,q=>exact q
 | 7,q=>exact q
 | 8,q=>exact q
 | 9,q=>exact q
 | 10,q=>exact(by obtain⟨d,e,a,b⟩:=q;exact⟨d,e,a,b.up30 a h⟩)
 | 11,q=>exact(by obtain⟨g,e,a,x,p,f,i,l,b⟩:=q;exact⟨g,e,a,x,p,f,i,l,b.up30 a h⟩)
 |(n+12),_=>exact trivial
theorem JV (B k gh:Nat): ∀j v u V g,j≠10->j≠11->(∀d,B<=d->d<V.heap.size->iF V 9 d->g.heap[d]?=V.heap[d]?)->JU B k gh j v u V->JU B k gh j v u g:=λj v u V g a b h q=>by
 match j,q,a,b with
 | 0,q,a,b=>exact(by obtain⟨d,e,f,c⟩:=q;exact⟨d,e,f,(h d f c.lt c.ty).trans c⟩)
 | 1,q,a,b=>exact q
 | 2,q,a,b=>exact(by obtain⟨d,e,f,c⟩:=q;exact⟨d,e,f,(h d f c.lt c.ty).trans c⟩)
 | 3,q,a,b=>exact q
 | 4,q,a,b=>exact q
 | 5,q,a,b=>exact q
 | 6,q,a,b=>exact q
 | 7,q,a,b=>exact q
 | 8,q,a,b=>exact q
 | 9,q,a,b=>exact q
 | 10,q,a,b=>exact absurd rfl a
 | 11,q,a,b=>exact absurd rfl b
 |(n+12),_,_,_=>exact trivial
def Ob (w':World)(e:Ending):Prop:= ∃(b:Option Addr) (d:Option Addr) (n5 i:Nat) (f:Option Addr) (l j:Nat) (g:Option Addr) (h:Option Addr) (m k:Nat) (rows n:List Ent) (a:List Chk) (ws:List Wvr),
 e=.returned (.tuple #[.agg #[.string ⟨#[114]⟩,.slice b 3 3,.slice none 0 0,.slice d n5 i],.slice f l j,.slice g 1 1,.slice h m k])/\
 In w' b 3 3 lQ/\In w' d n5 i rows/\In w' f l j a/\In w' g 1 1 [kT n []]/\In w' h m k ws/\uX lQ rows/\uX lQ n/\(∀c∈a,kL c)/\(a.map Chk.name).Nodup/\a.length<=4/\ws.length<=4
theorem Gb (w:World)(A:Option Addr)(n c:Nat)(l:List Int)(hl:In w A n c l)(hn:n<=200)(A2:Option Addr)(n2 c2:Nat)(l2:List Int)(di:In w A2 n2 c2 l2)(al:n2<=60):
  Calls Tryz.prog 13 #[.slice A n c,.slice A2 n2 c2] w λe w'=>Ob w' e/\Below w.heap.size w w':=by
 have HL:=Hm hl;have HM:=Hm di;have ft:=hl.le;have fu:=di.le;clear hl di;go_enter Tryz.func13,Tryz.ntmps13;go_upto_region 2 with (fail);obtain⟨bp,bQ⟩: ∃W,W=w.alloc (.cells #[.string ⟨#[]⟩,.slice none 0 0,.slice none 0 0,.slice none 0 0] 29):=⟨_,rfl⟩;obtain⟨g4,bI⟩: ∃q,q=w.heap.size:=⟨_,rfl⟩;have K4:Hl (jo bp g4 29 [.string ⟨#[]⟩,.slice none 0 0,.slice none 0 0,.slice none 0 0]):=Hm (by rw[bQ,bI];exact jo.made _ _ _);have dN:Hl (bp.heap.size=g4+1):=Hm (by rw[bQ,bI];exact World.size_alloc _ _);have eH:Hl (Below w.heap.size w bp):=Hm (by rw[bQ];exact fI);have ew:Hl (w.heap.size<=g4):=Hm (by rw[bI];exact Nat.le_refl _);rw[<-bQ,<-bI];have ff:=Hm bI;clear bQ bI;have dF:=Hm eH.o;obtain⟨bq,bR⟩: ∃W,W=bp.alloc (.cells #[.slice A n c,.int .i64 0] 64):=⟨_,rfl⟩;obtain⟨gg,aL⟩: ∃q,q=bp.heap.size:=⟨_,rfl⟩;have NG:Hl (jo bq gg 64 [.slice A n c,.int .i64 0]):=Hm (by rw[bR,aL];exact jo.made _ _ _);have dO:Hl (bq.heap.size=gg+1):=Hm (by rw[bR,aL];exact World.size_alloc _ _);have dE:Hl (Below bp.heap.size bp bq):=Hm (by rw[bR];exact fI);have ey:Hl (w.heap.size<=gg):=Hm (by rw[aL];exact dF.o.size);have fj:Hl (¬g4=gg):=Hm (by have h:=K4.o.lt;omega);have d6:gg=g4+1:=by rw[aL];exact dN.o
 rw[<-bR,<-d6];clear d6;have et:=Hm aL;clear bR aL;have K4:=Hm (K4.o.below dE.o);have dH:=Hm (fH dF.o dE.o);obtain⟨cA,bS⟩: ∃W,W=bq.alloc (.cells #[.slice A2 n2 c2,.int .i64 0] 64):=⟨_,rfl⟩;obtain⟨gh,aJ⟩: ∃q,q=bq.heap.size:=⟨_,rfl⟩;have NH:Hl (jo cA gh 64 [.slice A2 n2 c2,.int .i64 0]):=Hm (by rw[bS,aJ];exact jo.made _ _ _);have fq:Hl (cA.heap.size=gh+1):=Hm (by rw[bS,aJ];exact World.size_alloc _ _);have cU:Hl (Below bq.heap.size bq cA):=Hm (by rw[bS];exact fI);have ez:Hl (w.heap.size<=gh):=Hm (by rw[aJ];exact dH.o.size);have fk:Hl (¬g4=gh):=Hm (by have h:=K4.o.lt;omega);have fm:Hl (¬gg=gh):=Hm (by have h:=NG.o.lt;omega);have d7:gh=gg+1:=by rw[aJ];exact dO.o
 rw[<-bS,<-d7];clear d7;have eu:=Hm aJ;clear bS aJ;have K4:=Hm (K4.o.below cU.o);have NG:=Hm (NG.o.below cU.o);have eI:=Hm (fH dH.o cU.o);have aj:=eI.o;have M:=zD NG.o HL.o aj ey.o (by omega);have al:=zD NH.o HM.o aj ez.o (by omega);have aq:=K4.o;have aL:=NG.o.lt;have aJ:=NH.o.lt;have ao:Hl (w.heap.size<=g4/\g4<gg/\gg<gh):=Hm (by have h1:=ew.o;have h2:=et.o;have h3:=eu.o;have h4:=dN.o;have h5:=dO.o;omega);obtain⟨Wb,dR⟩: ∃W,W=cA:=⟨_,rfl⟩;rw[<-dR]at aj M al aq aL aJ⊢;clear dR;have bt:=Hm aj;have bz:=Hm M;have bA:=Hm al;have bv:=Hm aq;obtain⟨B,hB⟩: ∃b,b=Wb.heap.size:=⟨_,rfl⟩;rw[<-hB]at aL aJ;have cy:Hl (B<=Wb.heap.size):=Hm (by rw[hB];exact Nat.le_refl _);clear aj M al hB aq;clear K4 NG NH;obtain⟨ga,dc⟩: ∃q,q=Wb.heap.size:=⟨_,rfl⟩;have eK:B<=ga:=by rw[dc];exact cy.o
 go_wp2_with fail;refine(oK _).mono ?_;rintro e w4 ⟨⟨rfl,am⟩,au⟩;have dI:=Hm au;clear au;rw[<-dc]at am⊢;have dT:=Hu am eK;clear am dc;have ai:=Hm dT;clear dT;obtain⟨gb,bJ⟩: ∃q,q=w4.heap.size:=⟨_,rfl⟩;have eL:B<=gb:=by rw[bJ];exact Nat.le_trans cy.o dI.o.size
 go_wp2_with fail;refine(oK _).mono ?_;rintro e w5 ⟨⟨rfl,am⟩,c7⟩;have ai:=Hm (ai.o.below c7);have bE:=Hm (fH dI.o c7);clear c7;rw[<-bJ]at am⊢;have dU:=Hu am eL;clear am bJ;have aw:=Hm dU;clear dU;have bO:=Nat.le_trans cy.o bE.o.size;have M:=bz.o.below bE.o;have al:=bA.o.below bE.o;have aq:=bv.o.below bE.o;have aj:=fH bt.o bE.o;go_wp2_with fail;refine(Cj _ gg A n c l 0 M _ 3 3 (aw.o.off (by omega)) 9 (by omega) (by omega)).mono ?_;rintro e W3 ⟨⟨N,G,rows,eJ,rfl,bY,b7,bi⟩,R⟩;have aC:=bY.low bO;have bj:=al.other HM.o aj (by have:=ao.o;omega) (by have:=ao.o;omega) (by have:=ao.o;omega) R;have bg:=aq.grown R (λe=>by injection e with e;have:=ao.o;omega);have bW:=kM aj R aj.size (by have:=ao.o;omega);have bz:=Hm bi;have bA:=Hm bj;have bv:=Hm bg;have bt:=Hm bW;have cu:=Hm b7;obtain⟨E,aM⟩: ∃m,rows.length=m:=⟨_,rfl⟩;rw[aM]at aC⊢;have eC:=Hm aM;clear bY bi bj aq bg aj bW b7 aM M al bO;have ai:=Hm (ai.o.grown R (λz e=>by injection e with e;omega));have aw:=Hm (aw.o.grown R (λz e=>by injection e with e;omega));have bG:Hl (B<=W3.heap.size):=Hm (Nat.le_trans (Nat.le_trans cy.o bE.o.size) R.size);have ak:=Hm aC;clear aC;clear R;go_upto_region 3 with (fail);obtain⟨cB,bT⟩: ∃W,W=W3.alloc (.cells #[.string ⟨#[114]⟩,.slice (some ⟨ga,0,none⟩) 3 3,.slice none 0 0,.slice N E G] 29):=⟨_,rfl⟩;obtain⟨g5,R⟩: ∃q,q=W3.heap.size:=⟨_,rfl⟩;have KR:Hl (jo cB g5 29 [.string ⟨#[114]⟩,.slice (some ⟨ga,0,none⟩) 3 3,.slice none 0 0,.slice N E G]):=Hm (by rw[bT,R];exact jo.made _ _ _);have fo:Hl (cB.heap.size=g5+1):=Hm (by rw[bT,R];exact World.size_alloc _ _);have cv:Hl (Below W3.heap.size W3 cB):=Hm (by rw[bT];exact fI);have dw:Hl (W3.heap.size<=g5):=Hm (by rw[R];exact Nat.le_refl _);rw[<-bT,<-R];have fg:=Hm R;clear bT R;have ai:=Hm (ai.o.below cv.o);have aw:=Hm (aw.o.below cv.o);have ak:=Hm (ak.o.below cv.o);have dG:=Hm cv.o;obtain⟨gc,dd⟩: ∃q,q=cB.heap.size:=⟨_,rfl⟩;have eM:B<=gc:=by rw[dd];exact Nat.le_trans bG.o dG.o.size
 go_wp2_with fail;refine(oK _).mono ?_;rintro e w7 ⟨⟨rfl,am⟩,bH⟩;have KR:=Hm (KR.o.below bH);have ai:=Hm (ai.o.below bH);have aw:=Hm (aw.o.below bH);have ak:=Hm (ak.o.below bH);have dJ:=Hm (fH dG.o bH);clear bH;rw[<-dd]at am⊢;have dV:=Hu am eM;clear am dd;have ar:=Hm dV;clear dV;obtain⟨gd,de⟩: ∃q,q=w7.heap.size:=⟨_,rfl⟩;have eN:B<=gd:=by rw[de];exact Nat.le_trans bG.o dJ.o.size
 go_wp2_with fail;refine(oK _).mono ?_;rintro e w8 ⟨⟨rfl,am⟩,br⟩;have KR:=Hm (KR.o.below br);have ai:=Hm (ai.o.below br);have aw:=Hm (aw.o.below br);have ak:=Hm (ak.o.below br);have ar:=Hm (ar.o.below br);have bF:=Hm (fH dJ.o br);clear br;rw[<-de]at am⊢;have dW:=Hu am eN;clear am de;have cK:=Hm dW;clear dW;have bO:=Nat.le_trans bG.o bF.o.size;have M:=bz.o.below bF.o;have al:=bA.o.below bF.o;have aq:=bv.o.below bF.o;have aj:=fH bt.o bF.o;go_wp2_with fail;refine(Cj _ gg A n c l eJ M _ 3 3 (cK.o.off (by omega)) 4 (by omega) (by omega)).mono ?_;rintro e W4 ⟨⟨A6,c6,cH,fr,rfl,bY,b7,bi⟩,R⟩;have aC:=bY.low bO;have bj:=al.other HM.o aj (by have:=ao.o;omega) (by have:=ao.o;omega) (by have:=ao.o;omega) R;have bg:=aq.grown R (λe=>by injection e with e;have:=ao.o;omega);have bW:=kM aj R aj.size (by have:=ao.o;omega);have bz:=Hm bi;have bA:=Hm bj;have bv:=Hm bg;have bt:=Hm bW;have cR:=Hm b7;obtain⟨m6,aM⟩: ∃m,cH.length=m:=⟨_,rfl⟩;rw[aM]at aC⊢;have fi:=Hm aM;clear bY bi bj aq bg aj bW b7 aM M al bO;have KR:=Hm (KR.o.grown R (λe=>by injection e with e;have h1:=dw.o;have h2:=bG.o;omega));have ai:=Hm (ai.o.grown R (λz e=>by injection e with e;omega));have aw:=Hm (aw.o.grown R (λz e=>by injection e with e;omega));have ak:=Hm (ak.o.grown R (λz e=>by injection e with e;omega));have ar:=Hm (ar.o.grown R (λz e=>by injection e with e;omega));have cK:=Hm (cK.o.grown R (λz e=>by injection e with e;omega));have dM:Hl (B<=W4.heap.size):=Hm (Nat.le_trans (Nat.le_trans bG.o bF.o.size) R.size);have bn:=Hm aC;clear aC;clear R;go_upto_region 4 with (fail);obtain⟨cC,bU⟩: ∃W,W=W4.alloc (.cells #[.string ⟨#[111]⟩,.slice (some ⟨gc,0,none⟩) 3 3,.slice none 0 0,.slice A6 m6 c6] 29):=⟨_,rfl⟩;obtain⟨g6,aI⟩: ∃q,q=W4.heap.size:=⟨_,rfl⟩;have KO:Hl (jo cC g6 29 [.string ⟨#[111]⟩,.slice (some ⟨gc,0,none⟩) 3 3,.slice none 0 0,.slice A6 m6 c6]):=Hm (by rw[bU,aI];exact jo.made _ _ _);have fp:Hl (cC.heap.size=g6+1):=Hm (by rw[bU,aI];exact World.size_alloc _ _);have bD:Hl (Below W4.heap.size W4 cC):=Hm (by rw[bU];exact fI);have ex:Hl (W4.heap.size<=g6):=Hm (by rw[aI];exact Nat.le_refl _);have fl:Hl (¬g5=g6):=Hm (by have h:=KR.o.lt;omega);rw[<-bU,<-aI];have fh:=Hm aI;clear bU aI;have KR:=Hm (KR.o.below bD.o);have ai:=Hm (ai.o.below bD.o);have ak:=Hm (ak.o.below bD.o);have ar:=Hm (ar.o.below bD.o);have bn:=Hm (bn.o.below bD.o);have bN:=Hm bD.o;have M:=bz.o.below bN.o;have al:=bA.o.below bN.o;have aq:=bv.o.below bN.o;have aj:=fH bt.o bN.o;have dP:=Nat.le_trans bG.o dw.o;have dQ:=Nat.le_trans dM.o ex.o;have c1:=Nat.le_trans dM.o bN.o.size;have da:=ai.o;have db:=ar.o;have aC:=ak.o;have dn:=bn.o;have dh:=KR.o;have dg:=KO.o;obtain⟨Wo,dS⟩: ∃W,W=cC:=⟨_,rfl⟩;rw[<-dS]at M al aq aj c1 da db aC dn dh dg⊢;clear dS;have bw:=Hm dh;have cO:=Hm dg;have ai:=Hm da;have ar:=Hm db;have ak:=Hm aC;have bn:=Hm dn;have bu:=Hm dP;have cN:=Hm dQ;have D:=Hm (show Dz w Wo B g4 gg gh from⟨ao.o.1,ao.o.2.1,ao.o.2.2,aJ,c1⟩);have dz:=Hm (show S30 w Wo B g4 gg gh A n c l A2 n2 c2 l2 Wo from⟨⟨_,M⟩,⟨_,al⟩,aq,⟨Nat.le_refl _,λ_ _ _=>rfl⟩,aj⟩);clear M al aq aj dP dQ c1 da db aC dn dh dg;clear bz bA bv bt;obtain⟨j0,d0⟩:=dz.o.nh;go_upto_region 5 with (fail);go_wp2_with fail;refine(jA _ gh A2 n2 c2 l2 _ d0 5 (by omega)).mono ?_;rintro e W5 ⟨⟨x5,i5,rfl,ag,J,bi⟩,R⟩;have d8:=dz.o.nexth D.o bi R;obtain⟨k5,rfl⟩: ∃k:Nat,x5=k:=⟨x5.toNat,by omega⟩;have d1:k5<5:=by have:=J (by omega);omega
 have bB:=Hm d8;clear ag J bi R d8 d0;go_wp2;go_loopw [12,13] (λlv kv wr=> ∃(k:Nat) (cs:List Chk) (ks:List Nat),k<5/\kv=.int .i64 k/\cs.length+k<5/\(∀c∈cs,kL c)/\cs.map Chk.name=ks.map om/\ks.Nodup/\(∀j∈ks,k<j/\j<5)/\OL 48 Wo.heap.size (λ_=>False) [9,89] wr lv cs/\S30 w Wo B g4 gg gh A n c l A2 n2 c2 l2 wr) (λ_ kv _=>(RowKit.intOf kv).toNat)
 case atStart=>exact⟨k5,[],[],d1,rfl,by simpa using d1,by simp,rfl,by simp,by simp,OL.nil bB.o.up.1,bB.o⟩
 case round=>
  obtain⟨k,cs,ks,hk,rfl,fv,dY,d4,d3,d2,aN,hs⟩:=hrel;have co:=Hm dY;have ct:=Hm d4;have cr:=Hm d3;have bx:=Hm d2;have aH:=Hm aN;have F:=Hm hs;clear dY d4 d3 d2 aN hs;by_cases dj:0<k
  ·have k0:(0:Int)<(k:Int):=by omega
   have k1:(0:Int)<=(k:Int):=by omega
   have k2:(k:Int)<5:=by omega
   obtain⟨wo,rfl⟩: ∃W,W=wr:=⟨_,rfl⟩;go_upto_region 8 with (fail);have ay:=Hm (show gh<Wo.heap.size/\gh<wo.heap.size by have h1:=D.o;have h2:=F.o.up.1;obtain⟨_,_,_,_,_⟩:=h1;omega);go_cut [14] from 35 to 88 (λeS wx=> ∃g,eS=.pointer (some ⟨g,0,none⟩)/\wo.heap.size<=g/\(∃x p:Int,0<=x/\x<6/\(p=0\/p=1)/\jo wx g 48 [.string (om k),.string ⟨#[114]⟩,.int .i64 x,.slice none 0 0,.string ⟨#[]⟩,.slice none 0 0,.int .i64 0,.int .i64 0,.slice none 0 0,.int .i64 0,.int .i64 0,.int .i64 0,.int .i64 0,.int .i64 p])/\S30 w Wo B g4 gg gh A n c l A2 n2 c2 l2 wx/\gZ Wo.heap.size wo wx)
   case first=>
    refine iW (by kernel_rfl) wh (by kernel_rfl) (gZ wo.heap.size) (λvs=>⟨#[.slice A n c,.slice A2 n2 c2,undef,undef,.pointer (some ⟨g4,0,none⟩),.slice none 0 0,.slice none 0 0,.slice none 0 0,.pointer (some ⟨gg,0,none⟩),.pointer (some ⟨gh,0,none⟩),.pointer (some ⟨g5,0,none⟩),.pointer (some ⟨g6,0,none⟩),u12,.int .i64 ↑k,(vs.getD 10 (.bool false)),undef,undef,.slice A n c,.agg #[.slice A n c,.int .i64 0],.pointer (some ⟨gg,0,none⟩),.slice A2 n2 c2,.agg #[.slice A2 n2 c2,.int .i64 0],.pointer (some ⟨gh,0,none⟩),.slice (some ⟨ga,0,none⟩) 3 3,.slice (some ⟨gb,0,none⟩) 3 3,.pointer (some ⟨gg,0,none⟩),.slice N E G,.agg #[.string ⟨#[114]⟩,.slice (some ⟨ga,0,none⟩) 3 3,.slice none 0 0,.slice N E G],.slice (some ⟨gc,0,none⟩) 3 3,.slice (some ⟨gd,0,none⟩) 3 3,.pointer (some ⟨gg,0,none⟩),.slice A6 m6 c6,.agg #[.string ⟨#[111]⟩,.slice (some ⟨gc,0,none⟩) 3 3,.slice none 0 0,.slice A6 m6 c6],.pointer (some ⟨gh,0,none⟩),.int .i64 ↑k5,.int .i64 ↑k,.bool true,u37,u38,(vs.getD 0 (.bool false)),(vs.getD 1 (.bool false)),(vs.getD 2 (.bool false)),(vs.getD 3 (.bool false)),(vs.getD 4 (.bool false)),(vs.getD 5 (.bool false)),(vs.getD 6 (.bool false)),(vs.getD 7 (.bool false)),(vs.getD 8 (.bool false)),(vs.getD 9 (.bool false)),u49,u50,u51,u52,u53,u54,u55,u56,u57,u58,u59,u60,u61,u62,u63,u64,u65,u66,u67,u68,u69,u70,u71,u72,u73,u74,u75,u76,u77,u78,u79,u80,u81,u82,u83,u84,u85,u86,u87,u88,undef,undef,undef,undef,undef,undef,undef,undef,undef,undef,undef,undef,undef,undef,undef,undef,undef,undef,undef,undef,undef,undef,undef,undef,undef,undef,undef,undef,undef,undef,undef,undef,undef,undef,undef,undef,undef,undef,undef,undef,undef,undef,undef,undef],[]⟩) 12 (by decide) (λL V=>S30 w Wo B g4 gg gh A n c l A2 n2 c2 l2 V/\gZ Wo.heap.size wo V) EB Og (JU wo.heap.size k gh) (λ_ _=>True) Le (Mw wo.heap.size k gh) [_,_,_,_,_,_,_,_,_,_,_,.bool false] rfl rfl (λ_=>trivial) (⟨F.o.below (Below.refl _ _).drew,gZ.below (Below.refl _ _).drew⟩) ?_ ?_
    ·intro L i vs V hi ae K hd P O an;obtain⟨v0,aO,rfl,S⟩:=fJ ae;obtain⟨v1,aP,rfl,T⟩:=fJ S;obtain⟨v2,aQ,rfl,U⟩:=fJ T;obtain⟨v3,aR,rfl,Y⟩:=fJ U;obtain⟨v4,aS,rfl,Z⟩:=fJ Y;obtain⟨v5,aT,rfl,aa⟩:=fJ Z;obtain⟨v6,aU,rfl,ab⟩:=fJ aa;obtain⟨v7,aV,rfl,ac⟩:=fJ ab;obtain⟨v8,aW,rfl,ad⟩:=fJ ac;obtain⟨v9,du,rfl,aG⟩:=fJ ad;obtain⟨cm,ds,rfl,aE⟩:=fJ aG;obtain⟨dq,dt,rfl,aF⟩:=fJ aE;obtain rfl:=jR aF;clear ae S T U Y Z aa ab ac ad aG aE aF;have hi:i<12:=hi;have f:=Hm P;have t:=Hm O;have C:=Hm hd;have aK:=Hm K;have bK:=Hm an;clear P O hd K an;obtain rfl|rfl|rfl|rfl|rfl|rfl|rfl|rfl|rfl|rfl|rfl|rfl:i=0\/i=1\/i=2\/i=3\/i=4\/i=5\/i=6\/i=7\/i=8\/i=9\/i=10\/i=11:=by omega
     ·refine fK rfl λy r=>?_;go_simp;exact r.o _ _ ⟨_,rfl,⟨_,rfl,f.o.2.1,jo.made _ _ _⟩,⟨f.o.1.below fI,f.o.2.trans (gZ.below fI)⟩,.inl (gZ.below fI)⟩
     ·refine fK rfl λy r=>?_;go_simp;exact r.o _ _ ⟨_,rfl,rfl,⟨f.o.1,f.o.2⟩,.inl (gZ.below (Below.refl _ _))⟩
     ·obtain⟨d,rfl,hd,hb⟩:=fT t C 0 rfl rfl;obtain rfl:=fT t C 1 rfl rfl;have cn:=Hm hb;clear hb;refine fK rfl λy r=>?_;go_simp;exact r.o _ _ ⟨_,rfl,⟨_,rfl,hd,cn.o⟩,⟨f.o.1,f.o.2⟩,.inl (gZ.below (Below.refl _ _))⟩
     ·obtain⟨d,rfl,hd,hb⟩:=fT t C 2 rfl rfl;have cz:=Jm (k:=k) hb (by omega);clear hb;refine fK rfl λy r=>?_;go_simp;exact r.o _ _ ⟨_,rfl,rfl,⟨f.o.1,f.o.2⟩,.inl (gZ.below (Below.refl _ _))⟩
     ·refine fK rfl λy r=>?_;go_simp;exact r.o _ _ ⟨_,rfl,rfl,⟨f.o.1,f.o.2⟩,.inl (gZ.below (Below.refl _ _))⟩
     ·obtain rfl:=fT t C 4 rfl rfl;obtain⟨j1,ah⟩:=f.o.1.nh;have bk:=Hm ah;clear ah;refine fK rfl λy r=>?_;go_simp;go_at_call 32;refine(jA _ gh A2 n2 c2 l2 _ bk.o 6 (by omega)).mono ?_;rintro e w1 ⟨⟨x1,i1,rfl,ag,J,M⟩,Q⟩;have J:=J (by omega);have bl:=Hm M;have af:=Hm Q;clear M Q;go_wp2_with fail;exact r.o _ _ ⟨_,rfl,⟨_,rfl,ag,J⟩,⟨f.o.1.nexth D.o bl.o af.o,f.o.2.trans (gZ.grown af.o ay.o.1)⟩,.inl (gZ.grown af.o ay.o.2)⟩
     ·refine fK rfl λy r=>?_;go_simp;exact r.o _ _ ⟨_,rfl,rfl,⟨f.o.1,f.o.2⟩,.inl (gZ.below (Below.refl _ _))⟩
     ·obtain rfl:=fT t C 6 rfl rfl;obtain⟨j1,ah⟩:=f.o.1.nh;have bk:=Hm ah;clear ah;refine fK rfl λy r=>?_;go_simp;go_at_call 32;refine(jA _ gh A2 n2 c2 l2 _ bk.o 4 (by omega)).mono ?_;rintro e w1 ⟨⟨x1,i1,rfl,ag,J,M⟩,Q⟩;have J:=J (by omega);have bl:=Hm M;have af:=Hm Q;clear M Q;go_wp2_with fail;exact r.o _ _ ⟨_,rfl,⟨_,rfl,ag,J⟩,⟨f.o.1.nexth D.o bl.o af.o,f.o.2.trans (gZ.grown af.o ay.o.1)⟩,.inl (gZ.grown af.o ay.o.2)⟩
     ·obtain⟨x,rfl,ag,J⟩:=fT t C 7 rfl rfl;have wq:IntKind.i64.wrap (x.tdiv 2)=x / 2:=by rw[Int.tdiv_eq_ediv_of_nonneg ag];exact IntWalk.i64_in _ (by omega)
      have eR:x / 2=0\/x / 2=1:=by omega
      refine fK rfl λy r=>?_;go_simp;exact r.o _ _ ⟨_,rfl,⟨_,rfl,eR⟩,⟨f.o.1,f.o.2⟩,.inl (gZ.below (Below.refl _ _))⟩
     ·obtain rfl:=fT t C 3 rfl rfl;obtain⟨x,rfl,ag,J⟩:=fT t C 5 rfl rfl;obtain⟨p,rfl,hp⟩:=fT t C 8 rfl rfl;refine fK rfl λy r=>?_;go_simp;exact r.o _ _ ⟨_,rfl,⟨_,_,rfl,ag,J,hp⟩,⟨f.o.1,f.o.2⟩,.inl (gZ.below (Below.refl _ _))⟩
     ·refine fK rfl λy r=>?_;go_simp;exact r.o _ _ ⟨_,rfl,⟨_,rfl,f.o.2.1,jo.made _ _ _⟩,⟨f.o.1.below fI,f.o.2.trans (gZ.below fI)⟩,.inl (gZ.below fI)⟩
     ·obtain⟨g,rfl,hg,hb⟩: ∃g,cm=.pointer (some ⟨g,0,none⟩)/\wo.heap.size<=g/\jo V g 48 [.string ⟨#[]⟩,.string ⟨#[]⟩,.int .i64 0,.slice none 0 0,.string ⟨#[]⟩,.slice none 0 0,.int .i64 0,.int .i64 0,.slice none 0 0,.int .i64 0,.int .i64 0,.int .i64 0,.int .i64 0,.int .i64 0]:=(t.o 10 (C.o 10 (by simp[wh]))).2 (λu h=>by simp only[Og,List.mem_cons,List.not_mem_nil,or_false]at h;subst h;exact aK.o);obtain⟨x,p,rfl,ag,J,hp⟩:=fT t C 9 rfl rfl;have cn:=Hm hb;obtain⟨dj,k0,k1,k2,k3,k4,dp,k6,k7,k8,k9,fy,fA,fB,fC⟩:=hb.ats14;have f0:=hb.fz 0;have f1:=hb.fz 1;have f2:=hb.fz 2;have f3:=hb.fz 3;have f4:=hb.fz 4;have f5:=hb.fz 5;have f6:=hb.fz 6;have f7:=hb.fz 7;have f8:=hb.fz 8;have f9:=hb.fz 9;have cX:=hb.fz 10;have cY:=hb.fz 11;have cZ:=hb.fz 12;have c0:=hb.fz 13;clear hb;refine fK rfl λy r=>?_;go_simp;have er:=Hm (cn.o.set14 rfl (a0:=.string (om k)) (a1:=.string ⟨#[114]⟩) (a2:=.int .i64 x) (a3:=.slice none 0 0) (a4:=.string ⟨#[]⟩) (a5:=.slice none 0 0) (a6:=.int .i64 0) (a7:=.int .i64 0) (a8:=.slice none 0 0) (a9:=.int .i64 0) (a10:=.int .i64 0) (a11:=.int .i64 0) (a12:=.int .i64 0) (a13:=.int .i64 p));have cp:=Hm (Nv V g (.string (om k)) (.string ⟨#[114]⟩) (.int .i64 x) (.slice none 0 0) (.string ⟨#[]⟩) (.slice none 0 0) (.int .i64 0) (.int .i64 0) (.slice none 0 0) (.int .i64 0) (.int .i64 0) (.int .i64 0) (.int .i64 0) (.int .i64 p));exact r.o _ _ ⟨.bool false,rfl,⟨g,rfl,hg,x,p,ag,J,hp,er.o⟩,⟨f.o.1.own D.o cp.o (λq e=>by injection e with e;have:=ay.o.2;have h1:=f.o.2.1;have:=F.o.up.1;omega),f.o.2.own cp.o hg⟩,.inr (λj hj _ hu q=>JV _ _ _ j _ _ _ _ (λe=>by subst e;exact(hu 11 (by simp[Og])).1 rfl) hj (λd hd hl ht=>cp.o.block d hl (λe=>by injection e with e;subst e;exact iF.ne cn.o.ty ht (by decide) rfl)) q)⟩
    ·intro L vs V K ae P O;obtain⟨v0,aO,rfl,S⟩:=fJ ae;obtain⟨v1,aP,rfl,T⟩:=fJ S;obtain⟨v2,aQ,rfl,U⟩:=fJ T;obtain⟨v3,aR,rfl,Y⟩:=fJ U;obtain⟨v4,aS,rfl,Z⟩:=fJ Y;obtain⟨v5,aT,rfl,aa⟩:=fJ Z;obtain⟨v6,aU,rfl,ab⟩:=fJ aa;obtain⟨v7,aV,rfl,ac⟩:=fJ ab;obtain⟨v8,aW,rfl,ad⟩:=fJ ac;obtain⟨v9,du,rfl,aG⟩:=fJ ad;obtain⟨cm,ds,rfl,aE⟩:=fJ aG;obtain⟨dq,dt,rfl,aF⟩:=fJ aE;obtain rfl:=jR aF;clear ae S T U Y Z aa ab ac ad aG aE aF;have f:=Hm P;have t:=Hm O;have HL:=Hm K;clear P O K;obtain⟨g,rfl,hg,hb⟩: ∃g,cm=.pointer (some ⟨g,0,none⟩)/\wo.heap.size<=g/\ ∃x p:Int,0<=x/\x<6/\(p=0\/p=1)/\jo V g 48 [.string (om k),.string ⟨#[114]⟩,.int .i64 x,.slice none 0 0,.string ⟨#[]⟩,.slice none 0 0,.int .i64 0,.int .i64 0,.slice none 0 0,.int .i64 0,.int .i64 0,.int .i64 0,.int .i64 0,.int .i64 p]:=t.o 11 (by show 11<12;omega) rfl;go_wp2;go_meet
     case rel=>exact⟨g,rfl,hg,hb,f.o.1,f.o.2⟩
   case rest=>
    obtain⟨g,rfl,hg,⟨x,p,ag,J,hp,hb⟩,hs,hu⟩:=hcut;have HB:=Hm hb;have ba:=Hm hs;have bC:=Hm hu;have f:=Hm hg;clear hb hs hu;go_step;go_step;go_cut [] from 35 to 88 (λwx=>rQ Wo.heap.size k wx g/\S30 w Wo B g4 gg gh A n c l A2 n2 c2 l2 wx/\gZ Wo.heap.size wo wx)
    case first=>
     have bb:=Hm (show Wo.heap.size<=wc.heap.size from ba.o.up.1);have cp:=f;have az:=Hm (show Wo.heap.size<=g from Nat.le_trans F.o.up.1 hg);have aY:=Hm (show gh<wc.heap.size from Nat.lt_of_lt_of_le ay.o.1 ba.o.up.1);have dv:=Hm (show g<wc.heap.size from HB.o.lt);have ax:=Hm (show gh<g from Nat.lt_of_lt_of_le ay.o.2 hg);obtain⟨cV,d9,ee,ef,eg,eh,dp,ei,ej,ek,el,ea,eb,ec,ed⟩:=HB.o.ats14;have f0:=HB.o.fz 0;have f1:=HB.o.fz 1;have f2:=HB.o.fz 2;have f3:=HB.o.fz 3;have f4:=HB.o.fz 4;have f5:=HB.o.fz 5;have f6:=HB.o.fz 6;have f7:=HB.o.fz 7;have f8:=HB.o.fz 8;have f9:=HB.o.fz 9;have cX:=HB.o.fz 10;have cY:=HB.o.fz 11;have cZ:=HB.o.fz 12;have c0:=HB.o.fz 13;obtain rfl|rfl|rfl|rfl|rfl|rfl:x=0\/x=1\/x=2\/x=3\/x=4\/x=5:=by omega
     ·go_wp2_with fail;obtain⟨V4,bP,au,b0,b1,b2,bd⟩:=KN wc;rw[<-bP];clear bP cV d9 ee ef eg eh dp ei ej ek el ea eb ec ed f0 f1 f2 f3 f4 f5 f6 f7 f8 f9 cX cY cZ c0;have bs:=ba.o.below au;obtain⟨j1,ah⟩:=bs.nh;refine(jA _ gh A2 n2 c2 l2 _ ah 3 (by omega)).mono ?_;rintro e w1 ⟨⟨x1,i1,rfl,ag,J,M⟩,Q⟩;have bB:=Hm (bs.nexth D.o M Q);have cS:=Hm ((bC.o.trans (gZ.below au)).trans (gZ.grown Q ay.o.1));have aA:=(HB.o.below au).grown Q (λe=>by injection e with e;have:=ax.o;omega);obtain⟨q,rfl⟩: ∃q:Nat,x1=q:=⟨x1.toNat,by omega⟩;have hq:q<3:=by have:=J (by omega);omega
      obtain⟨e,s,hc,he,bV,hs⟩:=LF (B:=wc.heap.size) (bd.grown Q (λe=>by injection e with e;have:=aY.o;omega)) ⟨Nat.le_refl _,b0.grown Q (λe=>by injection e with e;have:=aY.o;omega)⟩ ⟨by omega,b1.grown Q (λe=>by injection e with e;have:=aY.o;omega)⟩ ⟨by omega,b2.grown Q (λe=>by injection e with e;have:=aY.o;omega)⟩ hq;have dl:(q:Int)<3:=by omega
      have dm:(0:Int)<=(q:Int):=by omega
      have x3:=aA.at 3 rfl;have xl:=aA.lt;have xf:=aA.fz 3;have cJ:=Hm aA;have cI:=Hm bV;have cM:=Hm (show Wo.heap.size<=e from Nat.le_trans bb.o he);have cP:=Hm (show e≠g by have:=dv.o;omega);clear bs ah ag J M Q aA bV he b0 b1 b2 bd au hq;go_wp2_with fail;go_meet
      case rel=>exact⟨rQ.mk (nI (om k) nR 0 [s] ⟨#[]⟩ [] 0 [] p) ((xn hp).1 s hs 0 (by omega)) rfl lF.2.2.2.2.2.2.2.2.2.1 (cJ.o.set 3 _) ⟨zR (xs:=[s]) (cI.o.far cP.o 3 _) cM.o rfl (by decide) (by simpa using hs.str),qd,qd⟩,bB.o.set D.o az.o 3 _,cS.o.set f.o 3 _⟩
     ·go_wp2_with fail;obtain⟨V4,bP,au,b0,b1,b2,bd⟩:=KN wc;rw[<-bP];clear bP cV d9 ee ef eg eh dp ei ej ek el ea eb ec ed f0 f1 f2 f3 f4 f5 f6 f7 f8 f9 cX cY cZ c0;have bs:=ba.o.below au;obtain⟨j1,ah⟩:=bs.nh;refine(jA _ gh A2 n2 c2 l2 _ ah 3 (by omega)).mono ?_;rintro e w1 ⟨⟨x1,i1,rfl,ag,J,M⟩,Q⟩;have bB:=Hm (bs.nexth D.o M Q);have cS:=Hm ((bC.o.trans (gZ.below au)).trans (gZ.grown Q ay.o.1));have aA:=(HB.o.below au).grown Q (λe=>by injection e with e;have:=ax.o;omega);obtain⟨q,rfl⟩: ∃q:Nat,x1=q:=⟨x1.toNat,by omega⟩;have hq:q<3:=by have:=J (by omega);omega
      obtain⟨e,s,hc,he,bV,hs⟩:=LF (B:=wc.heap.size) (bd.grown Q (λe=>by injection e with e;have:=aY.o;omega)) ⟨Nat.le_refl _,b0.grown Q (λe=>by injection e with e;have:=aY.o;omega)⟩ ⟨by omega,b1.grown Q (λe=>by injection e with e;have:=aY.o;omega)⟩ ⟨by omega,b2.grown Q (λe=>by injection e with e;have:=aY.o;omega)⟩ hq;have dl:(q:Int)<3:=by omega
      have dm:(0:Int)<=(q:Int):=by omega
      have x3:=aA.at 3 rfl;have xl:=aA.lt;have xf:=aA.fz 3;have cJ:=Hm aA;have cI:=Hm bV;have cM:=Hm (show Wo.heap.size<=e from Nat.le_trans bb.o he);have cP:=Hm (show e≠g by have:=dv.o;omega);clear bs ah ag J M Q aA bV he b0 b1 b2 bd au hq;go_wp2_with fail;go_meet
      case rel=>exact⟨rQ.mk (nI (om k) nR 1 [s] ⟨#[]⟩ [] 0 [] p) ((xn hp).1 s hs 1 (by omega)) rfl lF.2.2.2.2.2.2.2.2.2.1 (cJ.o.set 3 _) ⟨zR (xs:=[s]) (cI.o.far cP.o 3 _) cM.o rfl (by decide) (by simpa using hs.str),qd,qd⟩,bB.o.set D.o az.o 3 _,cS.o.set f.o 3 _⟩
     ·go_wp2_with fail;go_meet
      case rel=>exact⟨rQ.mk (nI (om k) nR 2 [nV] ⟨#[]⟩ [] 3 [] p) (xn hp).2.1 rfl lF.2.2.2.2.2.2.2.2.2.1 (((HB.o.set 3 _).set 7 _).below fI) ⟨zx (by unfold Str;decide) (by simp) bb.o,qd,qd⟩,((ba.o.set D.o az.o 3 _).set D.o az.o 7 _).below fI,((bC.o.set f.o 3 _).set f.o 7 _).trans (gZ.below fI)⟩
     ·go_wp2_with fail;go_meet
      case rel=>exact⟨rQ.mk (nI (om k) nR 3 [tu] nO [tu] 0 [] p) (xn hp).2.2.1 rfl lF.2.2.2.2.2.2.2.2.2.1 ((((HB.o.set 3 _).set 4 _).set 5 _).below below_alloc2) ⟨uq (zx (by unfold Str;decide) (by simp) bb.o) (by simp;have:=bb.o;omega) fI,zx (by unfold Str;decide) (by simp) (by have:=bb.o;omega),qd⟩,(((ba.o.set D.o az.o 3 _).set D.o az.o 4 _).set D.o az.o 5 _).below below_alloc2,(((bC.o.set f.o 3 _).set f.o 4 _).set f.o 5 _).trans (gZ.below below_alloc2)⟩
     ·go_wp2_with fail;go_meet
      case rel=>exact⟨rQ.mk (nI (om k) nR 4 [] ⟨#[]⟩ [] 0 Ev p) (xn hp).2.2.2 rfl lF.2.2.2.2.2.2.2.2.2.1 (((HB.o.set 2 _).set 8 _).below fI) ⟨qd,qd,Hy (by simp) bb.o⟩,((ba.o.set D.o az.o 2 _).set D.o az.o 8 _).below fI,((bC.o.set f.o 2 _).set f.o 8 _).trans (gZ.below fI)⟩
     ·go_wp2_with fail;go_meet
      case rel=>exact⟨rQ.mk (nI (om k) nR 4 [] ⟨#[]⟩ [] 0 Ev p) (xn hp).2.2.2 rfl lF.2.2.2.2.2.2.2.2.2.1 (((HB.o.set 2 _).set 8 _).below fI) ⟨qd,qd,Hy (by simp) bb.o⟩,((ba.o.set D.o az.o 2 _).set D.o az.o 8 _).below fI,((bC.o.set f.o 2 _).set f.o 8 _).trans (gZ.below fI)⟩
    case rest=>
     obtain⟨cE,b6,b8⟩:=hcut;obtain⟨wd,rfl⟩: ∃W,W=wc:=⟨_,rfl⟩;have es:=Hm cE;have cQ:=Hm b6;have eG:=Hm b8;clear cE b6 b8;go_step;go_step;go_cut [] from 35 to 88 (λwx=>rQ Wo.heap.size k wx g/\S30 w Wo B g4 gg gh A n c l A2 n2 c2 l2 wx/\gZ Wo.heap.size wo wx)
     case first=>
      obtain⟨j2,df⟩:=cQ.o.nh;go_wp2_with fail;refine(jA _ gh A2 n2 c2 l2 _ df 8 (by omega)).mono ?_;rintro e w2 ⟨⟨x2,i2,rfl,ag,J,al⟩,cF⟩;have bM:=Hm (cQ.o.nexth D.o al cF);have dC:=Hm (eG.o.trans (gZ.grown cF ay.o.1));have cL:=Hm (es.o.nexth cQ.o.up.1 df.blk.ty ⟨by decide,by decide⟩ (by have:=ay.o.2;have:=f.o;omega) cF);clear al cF df;obtain⟨cc,A',n',c',A'',n'',c'',A3,n3,c3,h1,h2,cD,h3,h4⟩:=cL.o;have y1:=h3.at 1 rfl;have yl:=h3.lt;have yf:=h3.fz 1;clear h1 h2 cD h3 h4;by_cases hx:x2=0
      ·subst hx;go_wp2_with fail;all_goals(try(exfalso;go_light;simp_all;done));go_meet
       case rel=>exact⟨cL.o.table bM.o.up.1 ⟨#[111]⟩ lF.2.2.2.2.2.2.2.2.2.2,bM.o.set D.o (Nat.le_trans F.o.up.1 f.o) 1 _,dC.o.set f.o 1 _⟩
      ·have q1:(x2==0)=false:=by simpa using hx
       go_wp2_with fail;all_goals(try(exfalso;go_light;simp_all;done));go_meet
       case rel=>exact⟨cL.o,bM.o,dC.o⟩
     case rest=>
      obtain⟨cE,b6,b8⟩:=hcut;obtain⟨we,rfl⟩: ∃W,W=wc:=⟨_,rfl⟩;obtain⟨cc,A',n',c',A'',n'',c'',A3,n3,c3,h1,h2,cD,h3,h4⟩:=cE;have dx:=Hm (aH.o.up30 b8);have bM:=Hm b6;have eE:=Hm (Kj h4 h1 h2 cD);have eA:=Hm h1;have eB:=Hm h2;have ar:=Hm (congrArg (λq=>cs.length+q) (Nat.succ_pred_eq_of_pos dj));simp only[fZ]at h3;obtain⟨cV,y0,y1,y2,y3,y4,y5,y6,y7,y8,y9,fD,fE,fF,fG⟩:=h3.ats14;have eO:cs.length+1<=maxLen:=by simp only[maxLen];omega
      have eP:(cs.length+1)*184<=140737488355328:=by omega
      have fe:IntKind.i64.wrap ((k:Int)-1)=((k-1:Nat):Int):=by rw[show(k:Int)-1=((k-1:Nat):Int) by omega];exact IntWalk.i64_in _ (by omega)
      clear h1 h2 cD h3 h4 b6 b8;go_wp2_with (at_builtin;refine gY _ rfl _ _ _ rfl FE (by decide) we _ rfl dx.o rfl rfl cc eE.o eO eP ?_;intro v9 w9 b4 c8 bX c4);have bm:=Hm b4;have eF:=Hm (bM.o.own D.o bX (λq e=>(dx.o.ty e).1));clear b4 c8 bX c4;go_wp2;all_goals(try(exfalso;go_light;simp_all;done));go_roundw
      case rel=>exact⟨k-1,cs++[cc],ks++[k],by omega,rfl,by simp;omega,λc hc=>by rcases List.mem_append.1 hc with hc|hc;exact co.o c hc;rw[List.mem_singleton.1 hc];exact eA.o,by simp[ct.o,eB.o],List.nodup_append.2 ⟨cr.o,by simp,λa ha b hb=>by rw[List.mem_singleton.1 hb];have:=bx.o a ha;omega⟩,λj hj=>by rcases List.mem_append.1 hj with hj|hj;exact⟨by have:=bx.o j hj;omega,(bx.o j hj).2⟩;rw[List.mem_singleton.1 hj];exact⟨by omega,hk⟩,bm.o,eF.o⟩
      case measure=>simp[RowKit.intOf];omega
  ·obtain rfl:k=0:=by omega
   obtain⟨Ac,cq,rfl,dZ⟩:=aH.o.inn;obtain⟨H,b3⟩: ∃m,cs.length=m:=⟨_,rfl⟩;have aN:=aH.o;rw[b3]at dZ aN⊢;have dk:H<=4:=by omega
   have aZ:=Hm b3;have dy:=Hm aN;clear dZ aN b3 aH;obtain⟨wl,rfl⟩: ∃W,W=wr:=⟨_,rfl⟩;obtain⟨j1,ah⟩:=F.o.ng;go_upto_region 23 with (fail);go_wp2_with fail;refine(jA _ gg A n c l _ ah 4 (by omega)).mono ?_;rintro e W6 ⟨⟨x6,i6,rfl,ag,J,bj⟩,aI⟩;obtain⟨k6,rfl⟩: ∃k:Nat,x6=k:=⟨x6.toNat,by omega⟩;have bg:k6<4:=by have:=J (by omega);omega
   have dA:=Hm (F.o.nextg D.o HM.o bj aI);have eD:=Hm (dy.o.up30 (gZ.grown aI (by obtain⟨_,_,_,_,_⟩:=D.o;omega)));clear ag J bj aI ah F dy;go_wp2;go_loopw [15,16] (λwv kv wr=> ∃(k:Nat) (ws:List Wvr),k<4/\kv=.int .i64 k/\ws.length+k<4/\OL 33 Wo.heap.size (λz=>B<=z) [] wr wv ws/\OL 48 Wo.heap.size (λ_=>False) [9,89] wr (.slice Ac H cq) cs/\S30 w Wo B g4 gg gh A n c l A2 n2 c2 l2 wr) (λ_ kv _=>(RowKit.intOf kv).toNat)
   case atStart=>exact⟨k6,[],bg,rfl,by simpa using bg,OL.nil dA.o.up.1,eD.o,dA.o⟩
   case round=>
    obtain⟨k,ws,hk,rfl,fx,d5,aN,hs⟩:=hrel;have ap:=Hm d5;have aH:=Hm aN;have F:=Hm hs;clear d5 aN hs;obtain⟨cW,r0,r1,r2,r3⟩:=(bw.o.up30 bu.o F.o.up).ats4;by_cases dj:0<k
    ·have k0:(0:Int)<(k:Int):=by omega
     by_cases aM:0<E
     ·have k1:(0:Int)<(E:Int):=by omega
      by_cases b3:0<H
      ·have k2:(0:Int)<(H:Int):=by omega
       obtain⟨wl,rfl⟩: ∃W,W=wr:=⟨_,rfl⟩;obtain⟨bc,oc,rfl⟩:=(jB aH.o aZ.o).at0 b3;obtain⟨b5,o5,rfl⟩:=ak.o.inn.at0 aM;have fw:E<=4096:=by rw[<-eC.o];obtain⟨hb,ht,_⟩:=gW (cu.o.tab (by simp[lQ])).2;exact(jm hb ht).1
       go_upto_region 26 with (fail);have ax:=Hm (show gg<Wo.heap.size/\gg<B by obtain⟨_,_,_,_,_⟩:=D.o;omega);have dD:Hl (ws.length+1<=maxLen/\(ws.length+1)*40<=140737488355328):=Hm (by simp only[maxLen];omega);refine iW (by kernel_rfl) qZ (by kernel_rfl) (gZ B) (λvs=>⟨#[.slice A n c,.slice A2 n2 c2,undef,undef,.pointer (some ⟨g4,0,none⟩),.slice none 0 0,.slice none 0 0,.slice none 0 0,.pointer (some ⟨gg,0,none⟩),.pointer (some ⟨gh,0,none⟩),.pointer (some ⟨g5,0,none⟩),.pointer (some ⟨g6,0,none⟩),.slice (some ⟨bc,oc,none⟩) H cq,.int .i64 0,u14,(vs.getD 22 (.bool false)),.int .i64 ↑k,.slice A n c,.agg #[.slice A n c,.int .i64 0],.pointer (some ⟨gg,0,none⟩),.slice A2 n2 c2,.agg #[.slice A2 n2 c2,.int .i64 0],.pointer (some ⟨gh,0,none⟩),.slice (some ⟨ga,0,none⟩) 3 3,.slice (some ⟨gb,0,none⟩) 3 3,.pointer (some ⟨gg,0,none⟩),.slice (some ⟨b5,o5,none⟩) E G,.agg #[.string ⟨#[114]⟩,.slice (some ⟨ga,0,none⟩) 3 3,.slice none 0 0,.slice (some ⟨b5,o5,none⟩) E G],.slice (some ⟨gc,0,none⟩) 3 3,.slice (some ⟨gd,0,none⟩) 3 3,.pointer (some ⟨gg,0,none⟩),.slice A6 m6 c6,.agg #[.string ⟨#[111]⟩,.slice (some ⟨gc,0,none⟩) 3 3,.slice none 0 0,.slice A6 m6 c6],.pointer (some ⟨gh,0,none⟩),.int .i64 ↑k5,.int .i64 0,.bool false,u37,u38,u39,u40,u41,u42,u43,u44,u45,u46,u47,u48,u49,u50,u51,u52,u53,u54,u55,u56,u57,u58,u59,u60,u61,u62,u63,u64,u65,u66,u67,u68,u69,u70,u71,u72,u73,u74,u75,u76,u77,u78,u79,u80,u81,u82,u83,u84,u85,u86,u87,u88,.pointer (some ⟨gg,0,none⟩),.int .i64 ↑k6,.int .i64 ↑k,.bool true,.bool true,.pointer (some ⟨g5,3,none⟩),.slice (some ⟨b5,o5,none⟩) E G,.int .i64 ↑E,.bool true,.bool true,.bool true,.slice (some ⟨bc,oc,none⟩) H cq,.int .i64 ↑H,.bool true,.bool true,u104,u105,(vs.getD 0 (.bool false)),(vs.getD 1 (.bool false)),(vs.getD 2 (.bool false)),(vs.getD 3 (.bool false)),(vs.getD 4 (.bool false)),(vs.getD 5 (.bool false)),(vs.getD 6 (.bool false)),(vs.getD 7 (.bool false)),(vs.getD 8 (.bool false)),(vs.getD 9 (.bool false)),(vs.getD 10 (.bool false)),(vs.getD 11 (.bool false)),(vs.getD 12 (.bool false)),(vs.getD 13 (.bool false)),(vs.getD 14 (.bool false)),(vs.getD 15 (.bool false)),(vs.getD 16 (.bool false)),(vs.getD 17 (.bool false)),(vs.getD 18 (.bool false)),(vs.getD 19 (.bool false)),(vs.getD 20 (.bool false)),(vs.getD 21 (.bool false)),undef,undef,undef,undef,undef],[]⟩) 23 (by decide) (λL V=>S30 w Wo B g4 gg gh A n c l A2 n2 c2 l2 V/\OL 48 Wo.heap.size (λ_=>False) [9,89] V (.slice (some ⟨bc,oc,none⟩) H cq) cs/\(L 21=false->OL 33 Wo.heap.size (λz=>B<=z) [] V u15 ws)) xy JZ (Dx B Wo.heap.size g5 gg b5 o5 E G bc oc H cq u15 ws) (λj v=>j=22->v=u15) Jd (JS B Wo.heap.size g5 gg b5 o5 E G bc oc H cq u15 ws) [_,_,_,_,_,_,_,_,_,_,_,_,_,_,_,_,_,_,_,_,_,_,_] rfl rfl (λj h=>by subst h;rfl) (⟨F.o.below (Below.refl _ _).drew,aH.o.below (Below.refl _ _).drew,λ_=>ap.o.below (Below.refl _ _).drew⟩) ?_ ?_
       ·intro L i vs V hi ae K hd P O an;obtain⟨v0,aO,rfl,S⟩:=fJ ae;obtain⟨v1,aP,rfl,T⟩:=fJ S;obtain⟨v2,aQ,rfl,U⟩:=fJ T;obtain⟨v3,aR,rfl,Y⟩:=fJ U;obtain⟨v4,aS,rfl,Z⟩:=fJ Y;obtain⟨v5,aT,rfl,aa⟩:=fJ Z;obtain⟨v6,aU,rfl,ab⟩:=fJ aa;obtain⟨v7,aV,rfl,ac⟩:=fJ ab;obtain⟨v8,aW,rfl,ad⟩:=fJ ac;obtain⟨v9,du,rfl,aG⟩:=fJ ad;obtain⟨cm,ds,rfl,aE⟩:=fJ aG;obtain⟨dq,dt,rfl,aF⟩:=fJ aE;obtain⟨eT,e2,rfl,ca⟩:=fJ aF;obtain⟨eU,e3,rfl,cb⟩:=fJ ca;obtain⟨eV,e4,rfl,cd⟩:=fJ cb;obtain⟨eW,e5,rfl,ce⟩:=fJ cd;obtain⟨eX,e6,rfl,cf⟩:=fJ ce;obtain⟨eY,e7,rfl,cg⟩:=fJ cf;obtain⟨eZ,e8,rfl,ch⟩:=fJ cg;obtain⟨e0,fa,rfl,ci⟩:=fJ ch;obtain⟨em,fb,rfl,cj⟩:=fJ ci;obtain⟨e1,fc,rfl,ck⟩:=fJ cj;obtain⟨dr,fd,rfl,cl⟩:=fJ ck;obtain rfl:=jR cl;clear ae S T U Y Z aa ab ac ad aG aE aF ca cb cd ce cf cg ch ci cj ck cl;have hi:i<23:=hi;have f:=Hm P;have t:=Hm O;have C:=Hm hd;have aK:=Hm K;have bK:=Hm an;clear P O hd K an;obtain rfl|rfl|rfl|rfl|rfl|rfl|rfl|rfl|rfl|rfl|rfl|rfl|rfl|rfl|rfl|rfl|rfl|rfl|rfl|rfl|rfl|rfl|rfl:i=0\/i=1\/i=2\/i=3\/i=4\/i=5\/i=6\/i=7\/i=8\/i=9\/i=10\/i=11\/i=12\/i=13\/i=14\/i=15\/i=16\/i=17\/i=18\/i=19\/i=20\/i=21\/i=22:=by omega
        ·obtain rfl:dr=u15:=bK.o 22 (Bool.eq_false_iff.2 λh=>by have h1:L 21=true:=(t.o 22 h).1;have h2:L 0=true:=(t.o 21 h1).1;rw[aK.o]at h2;cases h2) rfl;refine fK rfl λy r=>?_;go_simp;exact r.o _ _ ⟨_,rfl,rfl,⟨f.o.1,f.o.2.1,f.o.2.2⟩,.inl (gZ.below (Below.refl _ _))⟩
        ·refine fK rfl λy r=>?_;go_simp;exact r.o _ _ ⟨_,rfl,rfl,⟨f.o.1,f.o.2.1,f.o.2.2⟩,.inl (gZ.below (Below.refl _ _))⟩
        ·refine fK rfl λy r=>?_;go_simp;exact r.o _ _ ⟨_,rfl,rfl,⟨f.o.1,f.o.2.1,f.o.2.2⟩,.inl (gZ.below (Below.refl _ _))⟩
        ·refine fK rfl λy r=>?_;go_simp;exact r.o _ _ ⟨_,rfl,rfl,⟨f.o.1,f.o.2.1,f.o.2.2⟩,.inl (gZ.below (Below.refl _ _))⟩
        ·obtain rfl:=fT t C 3 rfl rfl;refine fK rfl λy r=>?_;go_simp;exact r.o _ _ ⟨_,rfl,rfl,⟨f.o.1,f.o.2.1,f.o.2.2⟩,.inl (gZ.below (Below.refl _ _))⟩
        ·obtain rfl:=fT t C 2 rfl rfl;obtain rfl:=fT t C 4 rfl rfl;obtain⟨j1,ah⟩:=f.o.1.ng;have bk:=Hm ah;clear ah;refine fK rfl λy r=>?_;go_simp;go_at_call 32;refine(jA _ gg A n c l _ bk.o H (by omega)).mono ?_;rintro e w1 ⟨⟨x1,i1,rfl,ag,J,M⟩,Q⟩;have J:=J (by omega);obtain⟨q1,rfl⟩: ∃q:Nat,x1=q:=⟨x1.toNat,by omega⟩;have bl:=Hm M;have af:=Hm Q;clear M Q;go_wp2_with fail;exact r.o _ _ ⟨_,rfl,⟨_,rfl,by omega⟩,⟨f.o.1.nextg D.o HM.o bl.o af.o,f.o.2.1.up30 (gZ.grown af.o ax.o.1),λh=>(f.o.2.2 h).upO af.o (λz e=>by injection e with e;have:=ax.o.2;subst e;exact⟨by omega,by have:=f.o.1.up.1;have:=ax.o.1;omega⟩)⟩,.inl (gZ.grown af.o ax.o.2)⟩
        ·obtain rfl:=fT t C 1 rfl rfl;obtain⟨q,rfl,hq⟩:=fT t C 5 rfl rfl;have dl:(q:Int)<(H:Int):=by omega
         have dm:(0:Int)<=(q:Int):=by omega
         refine fK rfl λy r=>?_;go_simp;exact r.o _ _ ⟨_,rfl,⟨q,rfl,hq⟩,⟨f.o.1,f.o.2.1,f.o.2.2⟩,.inl (gZ.below (Below.refl _ _))⟩
        ·obtain⟨q,rfl,hq⟩:=fT t C 6 rfl rfl;refine fK rfl λy r=>?_;go_simp;exact r.o _ _ ⟨_,rfl,⟨q,rfl,hq⟩,⟨f.o.1,f.o.2.1,f.o.2.2⟩,.inl (gZ.below (Below.refl _ _))⟩
        ·obtain⟨q,rfl,hq⟩:=fT t C 7 rfl rfl;obtain⟨b9,o9,x9,e9,_,_,_,_,_,_,_,_,_,_,_,dX,_,_,_,eQ⟩:=(jB f.o.2.1 aZ.o).chk hq;injection e9 with e9;injection e9 with e9 e9b;subst e9 e9b;have c9:=dX.1;clear dX;refine fK rfl λy r=>?_;go_simp;exact r.o _ _ ⟨_,rfl,⟨_,rfl,eQ.1⟩,⟨f.o.1,f.o.2.1,f.o.2.2⟩,.inl (gZ.below (Below.refl _ _))⟩
        ·refine fK rfl λy r=>?_;go_simp;exact r.o _ _ ⟨_,rfl,rfl,⟨f.o.1,f.o.2.1,f.o.2.2⟩,.inl (gZ.below (Below.refl _ _))⟩
        ·obtain rfl:=fT t C 9 rfl rfl;have y3:=(bw.o.up30 bu.o f.o.1.up).at 3 rfl;refine fK rfl λy r=>?_;go_simp;exact r.o _ _ ⟨_,rfl,rfl,⟨f.o.1,f.o.2.1,f.o.2.2⟩,.inl (gZ.below (Below.refl _ _))⟩
        ·refine fK rfl λy r=>?_;go_simp;exact r.o _ _ ⟨_,rfl,rfl,⟨f.o.1,f.o.2.1,f.o.2.2⟩,.inl (gZ.below (Below.refl _ _))⟩
        ·refine fK rfl λy r=>?_;go_simp;exact r.o _ _ ⟨_,rfl,rfl,⟨f.o.1,f.o.2.1,f.o.2.2⟩,.inl (gZ.below (Below.refl _ _))⟩
        ·obtain rfl:=fT t C 12 rfl rfl;have y3:=(bw.o.up30 bu.o f.o.1.up).at 3 rfl;refine fK rfl λy r=>?_;go_simp;exact r.o _ _ ⟨_,rfl,rfl,⟨f.o.1,f.o.2.1,f.o.2.2⟩,.inl (gZ.below (Below.refl _ _))⟩
        ·obtain rfl:=fT t C 13 rfl rfl;refine fK rfl λy r=>?_;go_simp;exact r.o _ _ ⟨_,rfl,rfl,⟨f.o.1,f.o.2.1,f.o.2.2⟩,.inl (gZ.below (Below.refl _ _))⟩
        ·obtain rfl:=fT t C 11 rfl rfl;obtain rfl:=fT t C 14 rfl rfl;obtain⟨j1,ah⟩:=f.o.1.ng;have bk:=Hm ah;clear ah;refine fK rfl λy r=>?_;go_simp;go_at_call 32;refine(jA _ gg A n c l _ bk.o E (by omega)).mono ?_;rintro e w1 ⟨⟨x1,i1,rfl,ag,J,M⟩,Q⟩;have J:=J (by omega);obtain⟨q1,rfl⟩: ∃q:Nat,x1=q:=⟨x1.toNat,by omega⟩;have bl:=Hm M;have af:=Hm Q;clear M Q;go_wp2_with fail;exact r.o _ _ ⟨_,rfl,⟨_,rfl,by omega⟩,⟨f.o.1.nextg D.o HM.o bl.o af.o,f.o.2.1.up30 (gZ.grown af.o ax.o.1),λh=>(f.o.2.2 h).upO af.o (λz e=>by injection e with e;have:=ax.o.2;subst e;exact⟨by omega,by have:=f.o.1.up.1;have:=ax.o.1;omega⟩)⟩,.inl (gZ.grown af.o ax.o.2)⟩
        ·obtain rfl:=fT t C 10 rfl rfl;obtain⟨q,rfl,hq⟩:=fT t C 15 rfl rfl;have dl:(q:Int)<(E:Int):=by omega
         have dm:(0:Int)<=(q:Int):=by omega
         refine fK rfl λy r=>?_;go_simp;exact r.o _ _ ⟨_,rfl,⟨q,rfl,hq⟩,⟨f.o.1,f.o.2.1,f.o.2.2⟩,.inl (gZ.below (Below.refl _ _))⟩
        ·obtain⟨q,rfl,hq⟩:=fT t C 16 rfl rfl;refine fK rfl λy r=>?_;go_simp;exact r.o _ _ ⟨_,rfl,⟨q,rfl,hq⟩,⟨f.o.1,f.o.2.1,f.o.2.2⟩,.inl (gZ.below (Below.refl _ _))⟩
        ·obtain⟨q,rfl,hq⟩:=fT t C 17 rfl rfl;obtain⟨Ax,nx,cx,row,fs,aD⟩:=L8 (Sl.keep (λz hz=>f.o.1.up.2 z hz.1 hz.2) ak.o) hq;have bo:=Hm aD;clear aD;refine fK rfl λy r=>?_;go_simp;exact r.o _ _ ⟨_,rfl,⟨_,_,_,row,rfl,bo.o,f.o.1.up.1⟩,⟨f.o.1,f.o.2.1,f.o.2.2⟩,.inl (gZ.below (Below.refl _ _))⟩
        ·obtain⟨s,rfl,hs⟩:=fT t C 8 rfl rfl;obtain⟨Ax,nx,cx,row,rfl,aD,cG⟩:=fT t C 18 rfl rfl;have bo:=Hm aD;clear aD;refine fK rfl λy r=>?_;go_simp;exact r.o _ _ ⟨_,rfl,⟨_,_,_,_,row,rfl,bo.o,cG,hs⟩,⟨f.o.1,f.o.2.1,f.o.2.2⟩,.inl (gZ.below (Below.refl _ _))⟩
        ·obtain⟨s,Ax,nx,cx,row,rfl,aD,cG,hs⟩:=fT t C 19 rfl rfl;have bo:=Hm (Sl.keep (λz hz=>(fI (o:=.cells #[.string s,.slice Ax nx cx] 33)).block z (Nat.lt_of_lt_of_le hz.2 cG)) aD);clear aD;refine fK rfl λy r=>?_;go_simp;exact r.o _ _ ⟨_,rfl,⟨_,s,Ax,nx,cx,row,rfl,by have:=D.o.2.2.2.2;omega,heap_alloc_new _ _,bo.o,by simp;omega,hs⟩,⟨f.o.1.below fI,f.o.2.1.below fI,λh=>(f.o.2.2 h).below fI⟩,.inl (gZ.below fI)⟩
        ·obtain rfl:=fT t C 0 rfl rfl;obtain⟨g,s,Ax,nx,cx,row,rfl,hg,bJ,aD,cG,hs⟩: ∃g s Ax nx cx,∃row:List Val,em=.slice (some ⟨g,0,none⟩) 1 1/\B<=g/\V.heap[g]?=some (.cells #[.string s,.slice Ax nx cx] 33 (0,0))/\(Sl V (λz=>B<=z/\z<Wo.heap.size) Ax nx cx row)/\Wo.heap.size<=V.heap.size/\Str s:=(t.o 20 (C.o 20 (by simp[qZ]))).2 (λu h=>by simp only[JZ,List.mem_cons,List.not_mem_nil,or_false]at h;subst h;exact aK.o);have ev:=Hm bJ;have bo:=Hm aD;have cT:=Hm (f.o.2.2 aK.o);clear bJ aD;refine fK rfl λy r=>?_;refine AX (by rfl) ?_;refine nT V _ _ _ rfl FJ List.not_mem_nil cT.o (by simp[Act.eval,Act.put]) (some ⟨g,0,none⟩) 1 1 [.string s,.slice Ax nx cx] [⟨s,row⟩] (by simp[Act.eval,Act.put]) (by intro h;cases h) (NK ev.o) (Cells.one ⟨_,_,_,rfl,bo.o.mono (λz hz=>.inl hz),hs⟩) rfl dD.o.1 dD.o.2 ?_;intro v9 w9 b4 c8 bX c4;have bm:=Hm b4;have af:=Hm bX;have dB:=Hm (λz (e:v0.ownBlock=some z)=>cT.o.ty e);clear b4 c8 bX c4;exact r.o _ _ ⟨_,rfl,⟨_,D.o.2.2.2.2,bm.o⟩,⟨f.o.1.own D.o af.o (λz e=>(dB.o z e).1),OL.besideT f.o.2.1 cT.o (by decide) (by decide) af.o,λh=>by simp at h⟩,.inr (λj hj K hu q=>Ii _ _ _ _ _ _ _ _ _ _ _ _ _ _ j _ _ _ _ (λe=>by subst e;exact(hu 21 (by simp[JZ])).1 rfl) hj (λe=>by subst e;have h1:L 21=true:=(t.o 22 K).1;rw[aK.o]at h1;cases h1) af.o.size (λz h1 h2 h3=>af.o.block z h2 (λe=>by have:=(dB.o z e.symm).1;omega)) q)⟩
        ·obtain⟨x,hB,ho⟩:=fT t C 21 rfl rfl;have bm:=Hm ho;clear ho;refine fK rfl λy r=>?_;go_simp;exact r.o _ _ ⟨_,rfl,⟨x,hB,bm.o⟩,⟨f.o.1,f.o.2.1,f.o.2.2⟩,.inl (gZ.below (Below.refl _ _))⟩
       ·intro L vs V K ae P O;obtain⟨v0,aO,rfl,S⟩:=fJ ae;obtain⟨v1,aP,rfl,T⟩:=fJ S;obtain⟨v2,aQ,rfl,U⟩:=fJ T;obtain⟨v3,aR,rfl,Y⟩:=fJ U;obtain⟨v4,aS,rfl,Z⟩:=fJ Y;obtain⟨v5,aT,rfl,aa⟩:=fJ Z;obtain⟨v6,aU,rfl,ab⟩:=fJ aa;obtain⟨v7,aV,rfl,ac⟩:=fJ ab;obtain⟨v8,aW,rfl,ad⟩:=fJ ac;obtain⟨v9,du,rfl,aG⟩:=fJ ad;obtain⟨cm,ds,rfl,aE⟩:=fJ aG;obtain⟨dq,dt,rfl,aF⟩:=fJ aE;obtain⟨eT,e2,rfl,ca⟩:=fJ aF;obtain⟨eU,e3,rfl,cb⟩:=fJ ca;obtain⟨eV,e4,rfl,cd⟩:=fJ cb;obtain⟨eW,e5,rfl,ce⟩:=fJ cd;obtain⟨eX,e6,rfl,cf⟩:=fJ ce;obtain⟨eY,e7,rfl,cg⟩:=fJ cf;obtain⟨eZ,e8,rfl,ch⟩:=fJ cg;obtain⟨e0,fa,rfl,ci⟩:=fJ ch;obtain⟨em,fb,rfl,cj⟩:=fJ ci;obtain⟨e1,fc,rfl,ck⟩:=fJ cj;obtain⟨dr,fd,rfl,cl⟩:=fJ ck;obtain rfl:=jR cl;clear ae S T U Y Z aa ab ac ad aG aE aF ca cb cd ce cf cg ch ci cj ck cl;have f:=Hm P;have t:=Hm O;have HL:=Hm K;clear P O K;obtain⟨x,_,ho⟩: ∃x:Wvr,B<=Wo.heap.size/\OL 33 Wo.heap.size (λz=>B<=z) [] V dr (ws++[x]):=t.o 22 (by show 22<23;omega) rfl;have bm:=Hm ho;clear ho;have fe:IntKind.i64.wrap ((k:Int)-1)=((k-1:Nat):Int):=by rw[show(k:Int)-1=((k-1:Nat):Int) by omega];exact IntWalk.i64_in _ (by omega)
        go_wp2;go_roundw
        case rel=>exact⟨k-1,ws++[x],by omega,rfl,by simp;omega,bm.o,f.o.2.1,f.o.1⟩
        case measure=>simp[RowKit.intOf];omega
      ·have k2:¬(0:Int)<(H:Int):=by omega
       obtain⟨Aw,cw,rfl,bZ⟩:=ap.o.inn;obtain⟨mw,bh⟩: ∃m,ws.length=m:=⟨_,rfl⟩;have aB:=ap.o;rw[bh]at aB⊢;have ap:=Hm aB;have bL:=Hm (show(cs.map Chk.name).Nodup by rw[ct.o];exact Di cr.o (λj hj=>(bx.o j hj).2));clear bZ aB;go_upto_region 27 with (fail);refine iW (by kernel_rfl) vZ (by kernel_rfl) (gZ B) (λvs=>⟨#[.slice A n c,.slice A2 n2 c2,undef,undef,.pointer (some ⟨g4,0,none⟩),(vs.getD 6 (.bool false)),(vs.getD 7 (.bool false)),(vs.getD 8 (.bool false)),.pointer (some ⟨gg,0,none⟩),.pointer (some ⟨gh,0,none⟩),.pointer (some ⟨g5,0,none⟩),.pointer (some ⟨g6,0,none⟩),.slice Ac H cq,.int .i64 0,u14,.slice Aw mw cw,.int .i64 ↑k,.slice A n c,.agg #[.slice A n c,.int .i64 0],.pointer (some ⟨gg,0,none⟩),.slice A2 n2 c2,.agg #[.slice A2 n2 c2,.int .i64 0],.pointer (some ⟨gh,0,none⟩),.slice (some ⟨ga,0,none⟩) 3 3,.slice (some ⟨gb,0,none⟩) 3 3,.pointer (some ⟨gg,0,none⟩),.slice N E G,.agg #[.string ⟨#[114]⟩,.slice (some ⟨ga,0,none⟩) 3 3,.slice none 0 0,.slice N E G],.slice (some ⟨gc,0,none⟩) 3 3,.slice (some ⟨gd,0,none⟩) 3 3,.pointer (some ⟨gg,0,none⟩),.slice A6 m6 c6,.agg #[.string ⟨#[111]⟩,.slice (some ⟨gc,0,none⟩) 3 3,.slice none 0 0,.slice A6 m6 c6],.pointer (some ⟨gh,0,none⟩),.int .i64 ↑k5,.int .i64 0,.bool false,u37,u38,u39,u40,u41,u42,u43,u44,u45,u46,u47,u48,u49,u50,u51,u52,u53,u54,u55,u56,u57,u58,u59,u60,u61,u62,u63,u64,u65,u66,u67,u68,u69,u70,u71,u72,u73,u74,u75,u76,u77,u78,u79,u80,u81,u82,u83,u84,u85,u86,u87,u88,.pointer (some ⟨gg,0,none⟩),.int .i64 ↑k6,.int .i64 ↑k,.bool true,.bool true,.pointer (some ⟨g5,3,none⟩),.slice N E G,.int .i64 ↑E,.bool true,.bool true,.bool true,.slice Ac H cq,.int .i64 ↑H,.bool false,.bool false,u104,u105,u106,u107,u108,u109,u110,u111,u112,u113,u114,u115,u116,u117,u118,u119,u120,u121,u122,u123,u124,u125,u126,u127,(vs.getD 0 (.bool false)),(vs.getD 1 (.bool false)),(vs.getD 2 (.bool false)),(vs.getD 3 (.bool false)),(vs.getD 4 (.bool false))],[]⟩) 9 (by decide) (λL V=>E30 w wr B V/\ ∃X,jo V g4 29 X/\X.length=4/\(L 5=true->X=[.string ⟨#[114]⟩,.slice (some ⟨ga,0,none⟩) 3 3,.slice none 0 0,.slice N E G])) zq J6 (Dy B (.slice Ac H cq) (.slice Aw mw cw) [.string ⟨#[114]⟩,.slice (some ⟨ga,0,none⟩) 3 3,.slice none 0 0,.slice N E G] [.string ⟨#[111]⟩,.slice (some ⟨gc,0,none⟩) 3 3,.slice none 0 0,.slice A6 m6 c6]) (λ_ _=>True) xz (yH B (.slice Ac H cq) (.slice Aw mw cw) [.string ⟨#[114]⟩,.slice (some ⟨ga,0,none⟩) 3 3,.slice none 0 0,.slice N E G] [.string ⟨#[111]⟩,.slice (some ⟨gc,0,none⟩) 3 3,.slice none 0 0,.slice A6 m6 c6]) [_,_,_,_,_,.bool false,_,_,_] rfl rfl (λ_=>trivial) (⟨⟨gZ.below (Below.refl _ _).drew,fH F.o.bel (Below.refl _ _).drew⟩,_,F.o.k4.drew,rfl,λh=>by cases h⟩) ?_ ?_
       ·intro L i vs V hi ae K hd P O an;obtain⟨v0,aO,rfl,S⟩:=fJ ae;obtain⟨v1,aP,rfl,T⟩:=fJ S;obtain⟨v2,aQ,rfl,U⟩:=fJ T;obtain⟨v3,aR,rfl,Y⟩:=fJ U;obtain⟨v4,aS,rfl,Z⟩:=fJ Y;obtain⟨v5,aT,rfl,aa⟩:=fJ Z;obtain⟨v6,aU,rfl,ab⟩:=fJ aa;obtain⟨v7,aV,rfl,ac⟩:=fJ ab;obtain⟨v8,aW,rfl,ad⟩:=fJ ac;obtain rfl:=jR ad;clear ae S T U Y Z aa ab ac ad;have hi:i<9:=hi;have f:=Hm P;have t:=Hm O;have C:=Hm hd;have aK:=Hm K;have bK:=Hm an;clear P O hd K an;obtain rfl|rfl|rfl|rfl|rfl|rfl|rfl|rfl|rfl:i=0\/i=1\/i=2\/i=3\/i=4\/i=5\/i=6\/i=7\/i=8:=by omega
        ·obtain⟨cW,r0,r1,r2,r3⟩:=(bw.o.up30 bu.o (F.o.up.trans f.o.1.up)).ats4;refine fK rfl λy r=>?_;go_simp;exact r.o _ _ ⟨_,rfl,rfl,⟨f.o.1,f.o.2⟩,.inl (gZ.below (Below.refl _ _))⟩
        ·refine fK rfl λy r=>?_;go_simp;exact r.o _ _ ⟨_,rfl,rfl,⟨f.o.1,f.o.2⟩,.inl (gZ.below (Below.refl _ _))⟩
        ·obtain⟨dL,o0,o1,o2,o3⟩:=(cO.o.up30 cN.o (F.o.up.trans f.o.1.up)).ats4;refine fK rfl λy r=>?_;go_simp;exact r.o _ _ ⟨_,rfl,rfl,⟨f.o.1,f.o.2⟩,.inl (gZ.below (Below.refl _ _))⟩
        ·obtain rfl:=fT t C 2 rfl rfl;refine fK rfl λy r=>?_;go_simp;exact r.o _ _ ⟨_,rfl,⟨_,rfl,Nat.le_trans D.o.2.2.2.2 (Nat.le_trans F.o.up.1 f.o.1.up.1),jo.made _ _ _⟩,⟨f.o.1.below fI,by obtain⟨X,h1,h2⟩:=f.o.2;exact⟨X,h1.below fI,h2⟩⟩,.inl (gZ.below fI)⟩
        ·refine fK rfl λy r=>?_;go_simp;exact r.o _ _ ⟨_,rfl,rfl,⟨f.o.1,f.o.2⟩,.inl (gZ.below (Below.refl _ _))⟩
        ·obtain rfl:=fT t C 0 rfl rfl;obtain⟨X,I,be,_⟩:=f.o.2;obtain⟨X0,X1,X2,X3,rfl⟩: ∃a b c d,X=[a,b,c,d]:=by match X,be with| [a,b,c,d],_=>exact⟨a,b,c,d,rfl⟩
         have HX:=Hm I;obtain⟨dK,z0,z1,z2,z3⟩:=I.ats4;have en:=I.fz 0;have eo:=I.fz 1;have ep:=I.fz 2;have eq:=I.fz 3;have aX:=Hm (show g4<B by obtain⟨_,_,_,_,_⟩:=D.o;omega);clear I be;refine fK rfl λy r=>?_;go_simp;exact r.o _ _ ⟨.bool false,rfl,trivial,⟨f.o.1.set4 aX.o (by have:=D.o.1;omega),_,HX.o.set4 rfl,rfl,λ_=>rfl⟩,.inl ((gZ.grown (ze _ _ _ _ _ _) aX.o))⟩
        ·obtain rfl:=fT t C 1 rfl rfl;refine fK rfl λy r=>?_;go_simp;exact r.o _ _ ⟨_,rfl,rfl,⟨f.o.1,f.o.2⟩,.inl (gZ.below (Below.refl _ _))⟩
        ·obtain⟨d,rfl,hd,hb⟩:=fT t C 3 rfl rfl;have av:=Hm hb;clear hb;refine fK rfl λy r=>?_;go_simp;exact r.o _ _ ⟨_,rfl,⟨_,rfl,hd,av.o⟩,⟨f.o.1,f.o.2⟩,.inl (gZ.below (Below.refl _ _))⟩
        ·obtain rfl:=fT t C 4 rfl rfl;refine fK rfl λy r=>?_;go_simp;exact r.o _ _ ⟨_,rfl,rfl,⟨f.o.1,f.o.2⟩,.inl (gZ.below (Below.refl _ _))⟩
       ·intro L vs V K ae P O;obtain⟨v0,aO,rfl,S⟩:=fJ ae;obtain⟨v1,aP,rfl,T⟩:=fJ S;obtain⟨v2,aQ,rfl,U⟩:=fJ T;obtain⟨v3,aR,rfl,Y⟩:=fJ U;obtain⟨v4,aS,rfl,Z⟩:=fJ Y;obtain⟨v5,aT,rfl,aa⟩:=fJ Z;obtain⟨v6,aU,rfl,ab⟩:=fJ aa;obtain⟨v7,aV,rfl,ac⟩:=fJ ab;obtain⟨v8,aW,rfl,ad⟩:=fJ ac;obtain rfl:=jR ad;clear ae S T U Y Z aa ab ac ad;have f:=Hm P;have t:=Hm O;have HL:=Hm K;clear P O K;obtain rfl:v6=(.slice Ac H cq):=t.o 6 (by show 6<9;omega) rfl;obtain⟨d,rfl,hd,hb⟩: ∃d,v7=.slice (some ⟨d,0,none⟩) 1 1/\B<=d/\jo V d 29 [.string ⟨#[111]⟩,.slice (some ⟨gc,0,none⟩) 3 3,.slice none 0 0,.slice A6 m6 c6]:=t.o 7 (by show 7<9;omega) rfl;obtain rfl:v8=(.slice Aw mw cw):=t.o 8 (by show 8<9;omega) rfl;have av:=Hm hb;obtain⟨X,I,_,bf⟩:=f.o.2;obtain rfl:=bf (HL.o 5 (by show 5<9;omega));have HX:=Hm I;have HE:=Hm f.o.1;clear hb I bf;go_wp2_with fail;refine bodyPost_ret (v:=.tuple #[.agg ([.string ⟨#[114]⟩,.slice (some ⟨ga,0,none⟩) 3 3,.slice none 0 0,.slice N E G]:List Value).toArray,.slice Ac H cq,.slice (some ⟨d,0,none⟩) 1 1,.slice Aw mw cw]) (sN (cs:=[.string ⟨#[114]⟩,.slice (some ⟨ga,0,none⟩) 3 3,.slice none 0 0,.slice N E G]) rfl _ _ g4 _ _ _ _ rfl rfl rfl rfl HX.o.all Tryz.underlying29 rfl (by kernel_rfl)) rfl ?_;exact⟨⟨_,N,E,G,Ac,H,cq,_,Aw,mw,cw,rows,cH,cs,ws,rfl,(ai.o.up30 (F.o.up.trans HE.o.up)).inn,(ak.o.up30 (F.o.up.trans HE.o.up)).inn,jB (aH.o.upB HE.o.up D.o.2.2.2.2) aZ.o,rX av.o (ar.o.up30 (F.o.up.trans HE.o.up)).inn (bn.o.up30 (F.o.up.trans HE.o.up)).inn,jB (ap.o.upW HE.o.up D.o.2.2.2.2) bh,cu.o,cR.o,co.o,bL.o,by rw[aZ.o];exact dk,by omega⟩,HE.o.bel⟩
     ·have k1:¬(0:Int)<(E:Int):=by omega
      obtain⟨Aw,cw,rfl,bZ⟩:=ap.o.inn;obtain⟨mw,bh⟩: ∃m,ws.length=m:=⟨_,rfl⟩;have aB:=ap.o;rw[bh]at aB⊢;have ap:=Hm aB;have bL:=Hm (show(cs.map Chk.name).Nodup by rw[ct.o];exact Di cr.o (λj hj=>(bx.o j hj).2));clear bZ aB;go_upto_region 27 with (fail);refine iW (by kernel_rfl) vZ (by kernel_rfl) (gZ B) (λvs=>⟨#[.slice A n c,.slice A2 n2 c2,undef,undef,.pointer (some ⟨g4,0,none⟩),(vs.getD 6 (.bool false)),(vs.getD 7 (.bool false)),(vs.getD 8 (.bool false)),.pointer (some ⟨gg,0,none⟩),.pointer (some ⟨gh,0,none⟩),.pointer (some ⟨g5,0,none⟩),.pointer (some ⟨g6,0,none⟩),.slice Ac H cq,.int .i64 0,u14,.slice Aw mw cw,.int .i64 ↑k,.slice A n c,.agg #[.slice A n c,.int .i64 0],.pointer (some ⟨gg,0,none⟩),.slice A2 n2 c2,.agg #[.slice A2 n2 c2,.int .i64 0],.pointer (some ⟨gh,0,none⟩),.slice (some ⟨ga,0,none⟩) 3 3,.slice (some ⟨gb,0,none⟩) 3 3,.pointer (some ⟨gg,0,none⟩),.slice N E G,.agg #[.string ⟨#[114]⟩,.slice (some ⟨ga,0,none⟩) 3 3,.slice none 0 0,.slice N E G],.slice (some ⟨gc,0,none⟩) 3 3,.slice (some ⟨gd,0,none⟩) 3 3,.pointer (some ⟨gg,0,none⟩),.slice A6 m6 c6,.agg #[.string ⟨#[111]⟩,.slice (some ⟨gc,0,none⟩) 3 3,.slice none 0 0,.slice A6 m6 c6],.pointer (some ⟨gh,0,none⟩),.int .i64 ↑k5,.int .i64 0,.bool false,u37,u38,u39,u40,u41,u42,u43,u44,u45,u46,u47,u48,u49,u50,u51,u52,u53,u54,u55,u56,u57,u58,u59,u60,u61,u62,u63,u64,u65,u66,u67,u68,u69,u70,u71,u72,u73,u74,u75,u76,u77,u78,u79,u80,u81,u82,u83,u84,u85,u86,u87,u88,.pointer (some ⟨gg,0,none⟩),.int .i64 ↑k6,.int .i64 ↑k,.bool true,.bool true,.pointer (some ⟨g5,3,none⟩),.slice N E G,.int .i64 ↑E,.bool false,.bool false,.bool false,undef,undef,undef,.bool false,u104,u105,u106,u107,u108,u109,u110,u111,u112,u113,u114,u115,u116,u117,u118,u119,u120,u121,u122,u123,u124,u125,u126,u127,(vs.getD 0 (.bool false)),(vs.getD 1 (.bool false)),(vs.getD 2 (.bool false)),(vs.getD 3 (.bool false)),(vs.getD 4 (.bool false))],[]⟩) 9 (by decide) (λL V=>E30 w wr B V/\ ∃X,jo V g4 29 X/\X.length=4/\(L 5=true->X=[.string ⟨#[114]⟩,.slice (some ⟨ga,0,none⟩) 3 3,.slice none 0 0,.slice N E G])) zq J6 (Dy B (.slice Ac H cq) (.slice Aw mw cw) [.string ⟨#[114]⟩,.slice (some ⟨ga,0,none⟩) 3 3,.slice none 0 0,.slice N E G] [.string ⟨#[111]⟩,.slice (some ⟨gc,0,none⟩) 3 3,.slice none 0 0,.slice A6 m6 c6]) (λ_ _=>True) xz (yH B (.slice Ac H cq) (.slice Aw mw cw) [.string ⟨#[114]⟩,.slice (some ⟨ga,0,none⟩) 3 3,.slice none 0 0,.slice N E G] [.string ⟨#[111]⟩,.slice (some ⟨gc,0,none⟩) 3 3,.slice none 0 0,.slice A6 m6 c6]) [_,_,_,_,_,.bool false,_,_,_] rfl rfl (λ_=>trivial) (⟨⟨gZ.below (Below.refl _ _).drew,fH F.o.bel (Below.refl _ _).drew⟩,_,F.o.k4.drew,rfl,λh=>by cases h⟩) ?_ ?_
      ·intro L i vs V hi ae K hd P O an;obtain⟨v0,aO,rfl,S⟩:=fJ ae;obtain⟨v1,aP,rfl,T⟩:=fJ S;obtain⟨v2,aQ,rfl,U⟩:=fJ T;obtain⟨v3,aR,rfl,Y⟩:=fJ U;obtain⟨v4,aS,rfl,Z⟩:=fJ Y;obtain⟨v5,aT,rfl,aa⟩:=fJ Z;obtain⟨v6,aU,rfl,ab⟩:=fJ aa;obtain⟨v7,aV,rfl,ac⟩:=fJ ab;obtain⟨v8,aW,rfl,ad⟩:=fJ ac;obtain rfl:=jR ad;clear ae S T U Y Z aa ab ac ad;have hi:i<9:=hi;have f:=Hm P;have t:=Hm O;have C:=Hm hd;have aK:=Hm K;have bK:=Hm an;clear P O hd K an;obtain rfl|rfl|rfl|rfl|rfl|rfl|rfl|rfl|rfl:i=0\/i=1\/i=2\/i=3\/i=4\/i=5\/i=6\/i=7\/i=8:=by omega
       ·obtain⟨cW,r0,r1,r2,r3⟩:=(bw.o.up30 bu.o (F.o.up.trans f.o.1.up)).ats4;refine fK rfl λy r=>?_;go_simp;exact r.o _ _ ⟨_,rfl,rfl,⟨f.o.1,f.o.2⟩,.inl (gZ.below (Below.refl _ _))⟩
       ·refine fK rfl λy r=>?_;go_simp;exact r.o _ _ ⟨_,rfl,rfl,⟨f.o.1,f.o.2⟩,.inl (gZ.below (Below.refl _ _))⟩
       ·obtain⟨dL,o0,o1,o2,o3⟩:=(cO.o.up30 cN.o (F.o.up.trans f.o.1.up)).ats4;refine fK rfl λy r=>?_;go_simp;exact r.o _ _ ⟨_,rfl,rfl,⟨f.o.1,f.o.2⟩,.inl (gZ.below (Below.refl _ _))⟩
       ·obtain rfl:=fT t C 2 rfl rfl;refine fK rfl λy r=>?_;go_simp;exact r.o _ _ ⟨_,rfl,⟨_,rfl,Nat.le_trans D.o.2.2.2.2 (Nat.le_trans F.o.up.1 f.o.1.up.1),jo.made _ _ _⟩,⟨f.o.1.below fI,by obtain⟨X,h1,h2⟩:=f.o.2;exact⟨X,h1.below fI,h2⟩⟩,.inl (gZ.below fI)⟩
       ·refine fK rfl λy r=>?_;go_simp;exact r.o _ _ ⟨_,rfl,rfl,⟨f.o.1,f.o.2⟩,.inl (gZ.below (Below.refl _ _))⟩
       ·obtain rfl:=fT t C 0 rfl rfl;obtain⟨X,I,be,_⟩:=f.o.2;obtain⟨X0,X1,X2,X3,rfl⟩: ∃a b c d,X=[a,b,c,d]:=by match X,be with| [a,b,c,d],_=>exact⟨a,b,c,d,rfl⟩
        have HX:=Hm I;obtain⟨dK,z0,z1,z2,z3⟩:=I.ats4;have en:=I.fz 0;have eo:=I.fz 1;have ep:=I.fz 2;have eq:=I.fz 3;have aX:=Hm (show g4<B by obtain⟨_,_,_,_,_⟩:=D.o;omega);clear I be;refine fK rfl λy r=>?_;go_simp;exact r.o _ _ ⟨.bool false,rfl,trivial,⟨f.o.1.set4 aX.o (by have:=D.o.1;omega),_,HX.o.set4 rfl,rfl,λ_=>rfl⟩,.inl ((gZ.grown (ze _ _ _ _ _ _) aX.o))⟩
       ·obtain rfl:=fT t C 1 rfl rfl;refine fK rfl λy r=>?_;go_simp;exact r.o _ _ ⟨_,rfl,rfl,⟨f.o.1,f.o.2⟩,.inl (gZ.below (Below.refl _ _))⟩
       ·obtain⟨d,rfl,hd,hb⟩:=fT t C 3 rfl rfl;have av:=Hm hb;clear hb;refine fK rfl λy r=>?_;go_simp;exact r.o _ _ ⟨_,rfl,⟨_,rfl,hd,av.o⟩,⟨f.o.1,f.o.2⟩,.inl (gZ.below (Below.refl _ _))⟩
       ·obtain rfl:=fT t C 4 rfl rfl;refine fK rfl λy r=>?_;go_simp;exact r.o _ _ ⟨_,rfl,rfl,⟨f.o.1,f.o.2⟩,.inl (gZ.below (Below.refl _ _))⟩
      ·intro L vs V K ae P O;obtain⟨v0,aO,rfl,S⟩:=fJ ae;obtain⟨v1,aP,rfl,T⟩:=fJ S;obtain⟨v2,aQ,rfl,U⟩:=fJ T;obtain⟨v3,aR,rfl,Y⟩:=fJ U;obtain⟨v4,aS,rfl,Z⟩:=fJ Y;obtain⟨v5,aT,rfl,aa⟩:=fJ Z;obtain⟨v6,aU,rfl,ab⟩:=fJ aa;obtain⟨v7,aV,rfl,ac⟩:=fJ ab;obtain⟨v8,aW,rfl,ad⟩:=fJ ac;obtain rfl:=jR ad;clear ae S T U Y Z aa ab ac ad;have f:=Hm P;have t:=Hm O;have HL:=Hm K;clear P O K;obtain rfl:v6=(.slice Ac H cq):=t.o 6 (by show 6<9;omega) rfl;obtain⟨d,rfl,hd,hb⟩: ∃d,v7=.slice (some ⟨d,0,none⟩) 1 1/\B<=d/\jo V d 29 [.string ⟨#[111]⟩,.slice (some ⟨gc,0,none⟩) 3 3,.slice none 0 0,.slice A6 m6 c6]:=t.o 7 (by show 7<9;omega) rfl;obtain rfl:v8=(.slice Aw mw cw):=t.o 8 (by show 8<9;omega) rfl;have av:=Hm hb;obtain⟨X,I,_,bf⟩:=f.o.2;obtain rfl:=bf (HL.o 5 (by show 5<9;omega));have HX:=Hm I;have HE:=Hm f.o.1;clear hb I bf;go_wp2_with fail;refine bodyPost_ret (v:=.tuple #[.agg ([.string ⟨#[114]⟩,.slice (some ⟨ga,0,none⟩) 3 3,.slice none 0 0,.slice N E G]:List Value).toArray,.slice Ac H cq,.slice (some ⟨d,0,none⟩) 1 1,.slice Aw mw cw]) (sN (cs:=[.string ⟨#[114]⟩,.slice (some ⟨ga,0,none⟩) 3 3,.slice none 0 0,.slice N E G]) rfl _ _ g4 _ _ _ _ rfl rfl rfl rfl HX.o.all Tryz.underlying29 rfl (by kernel_rfl)) rfl ?_;exact⟨⟨_,N,E,G,Ac,H,cq,_,Aw,mw,cw,rows,cH,cs,ws,rfl,(ai.o.up30 (F.o.up.trans HE.o.up)).inn,(ak.o.up30 (F.o.up.trans HE.o.up)).inn,jB (aH.o.upB HE.o.up D.o.2.2.2.2) aZ.o,rX av.o (ar.o.up30 (F.o.up.trans HE.o.up)).inn (bn.o.up30 (F.o.up.trans HE.o.up)).inn,jB (ap.o.upW HE.o.up D.o.2.2.2.2) bh,cu.o,cR.o,co.o,bL.o,by rw[aZ.o];exact dk,by omega⟩,HE.o.bel⟩
    ·have k0:¬(0:Int)<(k:Int):=by omega
     obtain⟨Aw,cw,rfl,bZ⟩:=ap.o.inn;obtain⟨mw,bh⟩: ∃m,ws.length=m:=⟨_,rfl⟩;have aB:=ap.o;rw[bh]at aB⊢;have ap:=Hm aB;have bL:=Hm (show(cs.map Chk.name).Nodup by rw[ct.o];exact Di cr.o (λj hj=>(bx.o j hj).2));clear bZ aB;go_upto_region 27 with (fail);refine iW (by kernel_rfl) vZ (by kernel_rfl) (gZ B) (λvs=>⟨#[.slice A n c,.slice A2 n2 c2,undef,undef,.pointer (some ⟨g4,0,none⟩),(vs.getD 6 (.bool false)),(vs.getD 7 (.bool false)),(vs.getD 8 (.bool false)),.pointer (some ⟨gg,0,none⟩),.pointer (some ⟨gh,0,none⟩),.pointer (some ⟨g5,0,none⟩),.pointer (some ⟨g6,0,none⟩),.slice Ac H cq,.int .i64 0,u14,.slice Aw mw cw,.int .i64 ↑k,.slice A n c,.agg #[.slice A n c,.int .i64 0],.pointer (some ⟨gg,0,none⟩),.slice A2 n2 c2,.agg #[.slice A2 n2 c2,.int .i64 0],.pointer (some ⟨gh,0,none⟩),.slice (some ⟨ga,0,none⟩) 3 3,.slice (some ⟨gb,0,none⟩) 3 3,.pointer (some ⟨gg,0,none⟩),.slice N E G,.agg #[.string ⟨#[114]⟩,.slice (some ⟨ga,0,none⟩) 3 3,.slice none 0 0,.slice N E G],.slice (some ⟨gc,0,none⟩) 3 3,.slice (some ⟨gd,0,none⟩) 3 3,.pointer (some ⟨gg,0,none⟩),.slice A6 m6 c6,.agg #[.string ⟨#[111]⟩,.slice (some ⟨gc,0,none⟩) 3 3,.slice none 0 0,.slice A6 m6 c6],.pointer (some ⟨gh,0,none⟩),.int .i64 ↑k5,.int .i64 0,.bool false,u37,u38,u39,u40,u41,u42,u43,u44,u45,u46,u47,u48,u49,u50,u51,u52,u53,u54,u55,u56,u57,u58,u59,u60,u61,u62,u63,u64,u65,u66,u67,u68,u69,u70,u71,u72,u73,u74,u75,u76,u77,u78,u79,u80,u81,u82,u83,u84,u85,u86,u87,u88,.pointer (some ⟨gg,0,none⟩),.int .i64 ↑k6,.int .i64 ↑k,.bool false,.bool false,undef,undef,undef,undef,.bool false,.bool false,undef,undef,undef,.bool false,u104,u105,u106,u107,u108,u109,u110,u111,u112,u113,u114,u115,u116,u117,u118,u119,u120,u121,u122,u123,u124,u125,u126,u127,(vs.getD 0 (.bool false)),(vs.getD 1 (.bool false)),(vs.getD 2 (.bool false)),(vs.getD 3 (.bool false)),(vs.getD 4 (.bool false))],[]⟩) 9 (by decide) (λL V=>E30 w wr B V/\ ∃X,jo V g4 29 X/\X.length=4/\(L 5=true->X=[.string ⟨#[114]⟩,.slice (some ⟨ga,0,none⟩) 3 3,.slice none 0 0,.slice N E G])) zq J6 (Dy B (.slice Ac H cq) (.slice Aw mw cw) [.string ⟨#[114]⟩,.slice (some ⟨ga,0,none⟩) 3 3,.slice none 0 0,.slice N E G] [.string ⟨#[111]⟩,.slice (some ⟨gc,0,none⟩) 3 3,.slice none 0 0,.slice A6 m6 c6]) (λ_ _=>True) xz (yH B (.slice Ac H cq) (.slice Aw mw cw) [.string ⟨#[114]⟩,.slice (some ⟨ga,0,none⟩) 3 3,.slice none 0 0,.slice N E G] [.string ⟨#[111]⟩,.slice (some ⟨gc,0,none⟩) 3 3,.slice none 0 0,.slice A6 m6 c6]) [_,_,_,_,_,.bool false,_,_,_] rfl rfl (λ_=>trivial) (⟨⟨gZ.below (Below.refl _ _).drew,fH F.o.bel (Below.refl _ _).drew⟩,_,F.o.k4.drew,rfl,λh=>by cases h⟩) ?_ ?_
     ·intro L i vs V hi ae K hd P O an;obtain⟨v0,aO,rfl,S⟩:=fJ ae;obtain⟨v1,aP,rfl,T⟩:=fJ S;obtain⟨v2,aQ,rfl,U⟩:=fJ T;obtain⟨v3,aR,rfl,Y⟩:=fJ U;obtain⟨v4,aS,rfl,Z⟩:=fJ Y;obtain⟨v5,aT,rfl,aa⟩:=fJ Z;obtain⟨v6,aU,rfl,ab⟩:=fJ aa;obtain⟨v7,aV,rfl,ac⟩:=fJ ab;obtain⟨v8,aW,rfl,ad⟩:=fJ ac;obtain rfl:=jR ad;clear ae S T U Y Z aa ab ac ad;have hi:i<9:=hi;have f:=Hm P;have t:=Hm O;have C:=Hm hd;have aK:=Hm K;have bK:=Hm an;clear P O hd K an;obtain rfl|rfl|rfl|rfl|rfl|rfl|rfl|rfl|rfl:i=0\/i=1\/i=2\/i=3\/i=4\/i=5\/i=6\/i=7\/i=8:=by omega
      ·obtain⟨cW,r0,r1,r2,r3⟩:=(bw.o.up30 bu.o (F.o.up.trans f.o.1.up)).ats4;refine fK rfl λy r=>?_;go_simp;exact r.o _ _ ⟨_,rfl,rfl,⟨f.o.1,f.o.2⟩,.inl (gZ.below (Below.refl _ _))⟩
      ·refine fK rfl λy r=>?_;go_simp;exact r.o _ _ ⟨_,rfl,rfl,⟨f.o.1,f.o.2⟩,.inl (gZ.below (Below.refl _ _))⟩
      ·obtain⟨dL,o0,o1,o2,o3⟩:=(cO.o.up30 cN.o (F.o.up.trans f.o.1.up)).ats4;refine fK rfl λy r=>?_;go_simp;exact r.o _ _ ⟨_,rfl,rfl,⟨f.o.1,f.o.2⟩,.inl (gZ.below (Below.refl _ _))⟩
      ·obtain rfl:=fT t C 2 rfl rfl;refine fK rfl λy r=>?_;go_simp;exact r.o _ _ ⟨_,rfl,⟨_,rfl,Nat.le_trans D.o.2.2.2.2 (Nat.le_trans F.o.up.1 f.o.1.up.1),jo.made _ _ _⟩,⟨f.o.1.below fI,by obtain⟨X,h1,h2⟩:=f.o.2;exact⟨X,h1.below fI,h2⟩⟩,.inl (gZ.below fI)⟩
      ·refine fK rfl λy r=>?_;go_simp;exact r.o _ _ ⟨_,rfl,rfl,⟨f.o.1,f.o.2⟩,.inl (gZ.below (Below.refl _ _))⟩
      ·obtain rfl:=fT t C 0 rfl rfl;obtain⟨X,I,be,_⟩:=f.o.2;obtain⟨X0,X1,X2,X3,rfl⟩: ∃a b c d,X=[a,b,c,d]:=by match X,be with| [a,b,c,d],_=>exact⟨a,b,c,d,rfl⟩
       have HX:=Hm I;obtain⟨dK,z0,z1,z2,z3⟩:=I.ats4;have en:=I.fz 0;have eo:=I.fz 1;have ep:=I.fz 2;have eq:=I.fz 3;have aX:=Hm (show g4<B by obtain⟨_,_,_,_,_⟩:=D.o;omega);clear I be;refine fK rfl λy r=>?_;go_simp;exact r.o _ _ ⟨.bool false,rfl,trivial,⟨f.o.1.set4 aX.o (by have:=D.o.1;omega),_,HX.o.set4 rfl,rfl,λ_=>rfl⟩,.inl ((gZ.grown (ze _ _ _ _ _ _) aX.o))⟩
      ·obtain rfl:=fT t C 1 rfl rfl;refine fK rfl λy r=>?_;go_simp;exact r.o _ _ ⟨_,rfl,rfl,⟨f.o.1,f.o.2⟩,.inl (gZ.below (Below.refl _ _))⟩
      ·obtain⟨d,rfl,hd,hb⟩:=fT t C 3 rfl rfl;have av:=Hm hb;clear hb;refine fK rfl λy r=>?_;go_simp;exact r.o _ _ ⟨_,rfl,⟨_,rfl,hd,av.o⟩,⟨f.o.1,f.o.2⟩,.inl (gZ.below (Below.refl _ _))⟩
      ·obtain rfl:=fT t C 4 rfl rfl;refine fK rfl λy r=>?_;go_simp;exact r.o _ _ ⟨_,rfl,rfl,⟨f.o.1,f.o.2⟩,.inl (gZ.below (Below.refl _ _))⟩
     ·intro L vs V K ae P O;obtain⟨v0,aO,rfl,S⟩:=fJ ae;obtain⟨v1,aP,rfl,T⟩:=fJ S;obtain⟨v2,aQ,rfl,U⟩:=fJ T;obtain⟨v3,aR,rfl,Y⟩:=fJ U;obtain⟨v4,aS,rfl,Z⟩:=fJ Y;obtain⟨v5,aT,rfl,aa⟩:=fJ Z;obtain⟨v6,aU,rfl,ab⟩:=fJ aa;obtain⟨v7,aV,rfl,ac⟩:=fJ ab;obtain⟨v8,aW,rfl,ad⟩:=fJ ac;obtain rfl:=jR ad;clear ae S T U Y Z aa ab ac ad;have f:=Hm P;have t:=Hm O;have HL:=Hm K;clear P O K;obtain rfl:v6=(.slice Ac H cq):=t.o 6 (by show 6<9;omega) rfl;obtain⟨d,rfl,hd,hb⟩: ∃d,v7=.slice (some ⟨d,0,none⟩) 1 1/\B<=d/\jo V d 29 [.string ⟨#[111]⟩,.slice (some ⟨gc,0,none⟩) 3 3,.slice none 0 0,.slice A6 m6 c6]:=t.o 7 (by show 7<9;omega) rfl;obtain rfl:v8=(.slice Aw mw cw):=t.o 8 (by show 8<9;omega) rfl;have av:=Hm hb;obtain⟨X,I,_,bf⟩:=f.o.2;obtain rfl:=bf (HL.o 5 (by show 5<9;omega));have HX:=Hm I;have HE:=Hm f.o.1;clear hb I bf;go_wp2_with fail;refine bodyPost_ret (v:=.tuple #[.agg ([.string ⟨#[114]⟩,.slice (some ⟨ga,0,none⟩) 3 3,.slice none 0 0,.slice N E G]:List Value).toArray,.slice Ac H cq,.slice (some ⟨d,0,none⟩) 1 1,.slice Aw mw cw]) (sN (cs:=[.string ⟨#[114]⟩,.slice (some ⟨ga,0,none⟩) 3 3,.slice none 0 0,.slice N E G]) rfl _ _ g4 _ _ _ _ rfl rfl rfl rfl HX.o.all Tryz.underlying29 rfl (by kernel_rfl)) rfl ?_;exact⟨⟨_,N,E,G,Ac,H,cq,_,Aw,mw,cw,rows,cH,cs,ws,rfl,(ai.o.up30 (F.o.up.trans HE.o.up)).inn,(ak.o.up30 (F.o.up.trans HE.o.up)).inn,jB (aH.o.upB HE.o.up D.o.2.2.2.2) aZ.o,rX av.o (ar.o.up30 (F.o.up.trans HE.o.up)).inn (bn.o.up30 (F.o.up.trans HE.o.up)).inn,jB (ap.o.upW HE.o.up D.o.2.2.2.2) bh,cu.o,cR.o,co.o,bL.o,by rw[aZ.o];exact dk,by omega⟩,HE.o.bel⟩
end Go.Proofs.YtopjjlmfilgngaaGreatDoor
