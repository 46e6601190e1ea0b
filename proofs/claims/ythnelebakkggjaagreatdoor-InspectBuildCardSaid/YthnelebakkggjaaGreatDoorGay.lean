/-
  inspect.copied: a bag in new memory. Plain: the checks that chapter 29's laws make. No program is in sight. Plain law: a table of the world is a table: its counts are positive and small, its rows fit.
-/
import Derived.Deep.DeepCutAuto
import Derived.Test.YthnelebakkggjaaGreatDoorGax
namespace Go.Proofs.YthnelebakkggjaaGreatDoor
set_option maxHeartbeats 4000000
set_option maxRecDepth 100000
open Go.RowKit
set_option linter.unusedSimpArgs false
set_option linter.unusedVariables false
def FN (e:TypeId)(B:Nat)(T:List TypeId)(w:World)(v:Value)(xs:List Ent)(k:Nat):Prop:=
 (∃a b,w.ownsRow B e 2 v xs.length (a++b)/\Cells w (BS B (λ_=>False) T w) a (xs.take k)/\Cells w (BS B (λ_=>True) T w) b (xs.drop k))/\B<=w.heap.size
theorem LM {B:Nat}{T:List TypeId}{w:World}{k:Nat}(h:BS B (λ_=>False) T w k):BS B (λ_=>True) T w k:=by
 rcases h with ⟨h,_⟩|h
 ·cases h
 ·exact .inr h
theorem FN.start {e:TypeId}{B:Nat}{T:List TypeId}{w:World}{v:Value}{xs:List Ent}(h:OL e B (λ_=>True) T w v xs):FN e B T w v xs 0:=by
 obtain⟨⟨a,b,c⟩,hb⟩:=h;exact⟨⟨[],a,b,rfl,c⟩,hb⟩
theorem FN.any {e:TypeId}{B:Nat}{T:List TypeId}{w:World}{v:Value}{xs:List Ent}{k:Nat}(h:FN e B T w v xs k):OL e B (λ_=>True) T w v xs:=by
 obtain⟨⟨g,i,b,c,d⟩,hb⟩:=h;have a:=Cells.app d (c.mono λ_ f=>LM f);rw[List.take_append_drop]at a;exact⟨⟨_,b,a⟩,hb⟩
theorem FN.fin {e:TypeId}{B:Nat}{T:List TypeId}{w:World}{v:Value}{xs:List Ent}{k:Nat}(h:FN e B T w v xs k)(d:xs.length<=k):OL e B (λ_=>False) T w v xs:=by
 obtain⟨⟨g,f,a,b,c⟩,hb⟩:=h;rw[List.drop_eq_nil_of_le d]at c;obtain rfl:f=[]:=c;rw[List.take_of_length_le d]at b;rw[List.append_nil]at a;exact⟨⟨_,a,b⟩,hb⟩
theorem FN.b {e:TypeId}{B:Nat}{T:List TypeId}{w c:World}{v:Value}{xs:List Ent}{k:Nat}(h:FN e B T w v xs k)(hb:Below w.heap.size w c):FN e B T c v xs k:=by
 obtain⟨⟨m,n,f,o,p⟩,d⟩:=h;have i: ∀j,BS B (λ_=>False) T w j->c.heap[j]?=w.heap[j]?:=λj a=>hb.block j (a.lt d);have l: ∀j,BS B (λ_=>True) T w j->c.heap[j]?=w.heap[j]?:=λj a=>hb.block j (a.lt d);exact⟨⟨m,n,Bj f λg q=>hb.block g (vS f q).2.lt,(o.keep i).mono λj a=>a.kept (i j a),(p.keep l).mono λj a=>a.kept (l j a)⟩,Nat.le_trans d hb.size⟩
theorem OL.addr {α:Type}[Rep α]{e:TypeId}{B:Nat}{O:Nat->Prop}{T:List TypeId}{w:World}{A:Option Addr}{n c:Nat}{xs:List α}(h:OL e B O T w (.slice A n c) xs)(m:0<xs.length): ∃g,A=some ⟨g,0,none⟩/\B<=g/\jQ w e g/\ ∀o,w.frozen? ⟨g,o,none⟩=false:=by
 obtain⟨⟨j,f,l⟩,hb⟩:=h;rcases f.2 with ⟨_,k⟩|⟨g,cap,d,a,i,b,_⟩
 ·omega
 ·injection a with a;exact⟨g,a,i,⟨d,b⟩,λo=>frozen_of_row w g o _ _ b⟩
theorem FN.step {e:TypeId}{B:Nat}{T:List TypeId}{w:World}{g n c:Nat}{xs:List Ent}{k:Nat}(h:FN e B T w (.slice (some ⟨g,0,none⟩) n c) xs k)(F:e∉T){x:Ent}(o:xs.drop k=x::xs.drop (k+1)){i:Option Addr}{m c1:Nat}(hs:Sl w (BS B (λ_=>False) T w) i m c1 x.row):
  FN e B T (w.setCell ⟨g,k*2,none⟩ (.slice i m c1)) (.slice (some ⟨g,0,none⟩) n c) xs (k+1):=by
 obtain⟨⟨r,M,t,u,v⟩,hb⟩:=h;rw[o]at v;obtain⟨a,b,rfl,⟨L,Q,c0,rfl,P,J⟩,G⟩:=v;have I:r.length=k*2:=by
  have p:=u.len;have y:k<xs.length:=by
   rcases Nat.lt_or_ge k xs.length with q|q
   ·exact q
   ·rw[List.drop_eq_nil_of_le q]at o;cases o
  rw[p,List.length_take,Nat.min_eq_left Ho];rfl
 rcases t.2 with ⟨f,_⟩|⟨N,cap,s,f,H,z,p,y,C,D⟩
 ·cases f
 injection f with f q1 q2;injection f with f;injection f with f;subst f q2;have l: ∀(O:Nat->Prop) j,BS B O T w j->(w.setCell ⟨g,k*2,none⟩ (.slice i m c1)).heap[j]?=w.heap[j]?:=λO j d=>Below.heap_setCell _ _ _ j (λq=>by
  have q:j=g:=q;subst q;rcases d with ⟨_,d⟩|⟨_,R,K,d⟩
  ·omega
  ·exact jQ.ne ⟨s,z⟩ d (λA=>F (A▸K)) rfl)
 refine⟨⟨r++[.slice i m c1,.int .i64 x.count],b,⟨?_,.inr ⟨g,c,s.setIfInBounds (k*2) (.slice i m c1),by rw[q1],H,by simp[World.setCell,Array.getElem?_modify,z],p,y,by simpa using C,?_⟩⟩,?_,?_⟩,by simpa[World.setCell] using hb⟩
 ·have E:=t.1;simp at E⊢;omega
 ·rw[Array.toList_setIfInBounds,List.take_set,D,<-I];simp
 ·rw[gJ o];refine Cells.app (Cells.one (show Rep.rd _ _ [.slice i m c1,.int .i64 x.count] x from⟨_,_,_,rfl,(Sl.keep (λj d=>l _ j d) hs).mono λj d=>d.kept (l _ j d),J⟩)) ((u.keep (l _)).mono λj d=>d.kept (l _ j d))
 ·exact(G.keep (l _)).mono λj d=>d.kept (l _ j d)
theorem sU (w:World)(A:Option Addr)(n c:Nat)(xs:List Ent)(I:In w A n c xs)(hn:n<=4096)(F: ∀x∈xs,x.row.length<=4096):
  Calls Tryz.prog 18 #[.slice A n c] w λe w'=>(∃v,e=.returned v/\OL 55 w.heap.size (λ_=>False) [67] w' v xs)/\Below w.heap.size w w':=by
 have m:=Hm I.len;have T:=Hm F;clear F;go_enter Tryz.func18,Tryz.ntmps18;go_wp2_with fail;refine(EC _ A n c xs I Ho).mono ?_;rintro e w1 ⟨⟨J,c1,rfl,E⟩,z⟩;have R:=Hm (FN.start (E.types (T':=[67]) II));have N:=Hm z;clear E z;go_wp2;go_loopg [4,9] n (λleft j i wr=> ∃k:Nat,k+left=n/\i=.int .i64 k/\FN 55 w.heap.size [67] wr (.slice J n c1) xs k/\Below w.heap.size w wr)
 case atStart=>exact⟨0,Ho,rfl,R.o,N.o⟩
 case round=>
  obtain⟨k,hk,rfl,h,hb⟩:=hrel;have t:=Hm h;have d:=Hm hb;by_cases V:k<n
  ·obtain⟨g,rfl,U,H,C⟩:=h.any.addr (by rw[m.o];omega);obtain⟨b,off,x,s,aa,u,M,l,L,q,y,r,Y⟩:=(iy h.any m.o).ent V;injection s with s;injection s with q1 q2;subst q1 q2;rw[Nat.zero_add]at q y;have W:=fE u.o;have Z:l<=4096:=by have:=T.o x W;have:=r.len;omega
   have k0:(0:Int)<=(k:Int):=by omega
   have k1:(k:Int)<(n:Int):=by omega
   have P:=Hm r;have B:=C (k*2);have f:=H.lt;clear h hb y r C H;go_wp2_with fail;refine(wJ _ M l L x.row P.o Ho).mono ?_;rintro e w2 ⟨⟨K,c2,rfl,G⟩,a⟩;have X:=eG a f q;have ab:=((eO a).2 g (k*2) f).trans B;have ac:=Nat.lt_of_lt_of_le f a.size;have S:=Hm ((t.o.b a).step (by decide) u.o (G.mono λj D=>.inr ⟨Nat.le_trans d.o.size D.1,_,by simp,D.2⟩));have O:=Hm ((d.o.trans (a.mono d.o.size)).setCell (p:=⟨g,k*2,none⟩) U (.slice K l c2));clear q B G a f;go_wp2;go_roundg (gk-1)
   case measure=>omega
   case rel=>exact⟨k+1,Ho,by go_num,S.o,O.o⟩
  ·have Q:=Hm (t.o.fin (by rw[m.o];omega));go_wp2;go_ret;exact⟨⟨_,rfl,Q.o⟩,d.o⟩
theorem sV (w:World)(A:Option Addr)(n c:Nat)(xs:List Ent)(d:In w A n c xs)(f:n<=4096)(b: ∀x∈xs,x.row.length<=4096):
  Calls Tryz.prog 21 #[.slice A n c] w λe w'=>(∃v,e=.returned v/\OL 55 w.heap.size (λ_=>False) [67] w' v xs)/\Below w.heap.size w w':=
 (vF w A n c xs d Ho b).mono (by
  rintro e g ⟨⟨v,rfl,a⟩,hb⟩;exact⟨⟨v,rfl,a.ol hb.size⟩,hb⟩)
def nV:ByteArray:=⟨#[118]⟩
def EZ:ByteArray:=⟨#[105,100]⟩
def nG:ByteArray:=⟨#[110,97,109,101]⟩
def kK:List Col:=[NM false,Nh true,⟨nV,2,true⟩]
theorem sP: ∀x∈kK,x.good:=by
 intro x a;simp only[kK,List.mem_cons,List.not_mem_nil,or_false]at a;rcases a with rfl|rfl|rfl<;>refine⟨Mj ?_ ?_ ?_,?_,?_⟩<;>decide
def Lu:List Node:=[⟨1,⟨0,0,⟨#[]⟩⟩,nV,0⟩,⟨1,⟨0,0,⟨#[]⟩⟩,EZ,0⟩,⟨12,⟨0,0,⟨#[]⟩⟩,⟨#[]⟩,0⟩]
def mF (k:Int)(a:List ByteArray)(on:ByteArray)(e:List ByteArray)(hi:Int)(cond:List Node)(b ld d c:Int):Chk:=⟨⟨#[99]⟩,⟨#[]⟩,k,a,on,e,0,hi,cond,b,ld,d,c,1⟩
def Dh:List (List ByteArray):=[[nG],[EZ,nV],[nV]]
def kZ:List Chk:=(Dh.map λa=>mF 0 a ⟨#[]⟩ [] 0 [] 0 0 0 0)++(Dh.map λa=>mF 1 a ⟨#[]⟩ [] 0 [] 0 0 0 0)++
 [mF 2 [nV] ⟨#[]⟩ [] 3 [] 0 0 0 0,mF 3 [nG] ⟨#[111]⟩ [nG] 0 [] 0 0 0 0,mF 3 [nV] ⟨#[111]⟩ [EZ] 0 [] 0 0 0 0,mF 3 [nG,EZ] ⟨#[111]⟩ [nG,nV] 0 [] 0 0 0 0,mF 6 [nV] ⟨#[111]⟩ [EZ] 0 [] 0 0 0 0,mF 4 [] ⟨#[]⟩ [] 0 Lu 1 3 2 3,mF 5 [] ⟨#[]⟩ [] 0 Lu 1 3 2 3]
theorem Mg {cols:List Col}{xs:List Ent}(h: ∀x∈xs,En cols x)(r:List Val):0<=cnt xs r/\cnt xs r<=2*(xs.length:Int):=by
 induction xs with
 |nil=>simp[cnt]
 |cons x l b=>
  have c:=(h x II).2.2;have d:=b λy a=>h y (by simp[a]);rw[cnt,List.length_cons]
  split<;>omega
theorem u6.tab {cols:List Col}(k:cols.length<=12){zs:List Ent}(h:u6 cols zs):(∀x∈zs,0<x.count/\x.count<=2000)/\ji cols zs=0:=by
 obtain⟨hb,n,_⟩:=h.bag k;obtain⟨xs,q,g,p,m⟩:=h;have f:=zi m;rw[zh λx a=>zF k (g x a)]at f;have i: ∀x∈zs,0<x.count/\x.count<=2000:=by
  intro x a;have r:x.count≠0:=((jR.1 hb).2.1 x a).2;rcases Cs xs with e|⟨_,e⟩
  ·have c:=yu e x.row;rw[f]at c;have d:=(mO hb).mem a;have b:=Mg g x.row;have c':cnt zs x.row=cnt xs x.row:=c;omega
  ·rw[f]at e;have l:zs=[]:=e;subst l;cases a
 refine⟨i,?_⟩;have o:jE zs=true:=by
  rw[jE,hb];simp only[BEq.rfl,Bool.true_and,List.all_eq_true,decide_eq_true_eq];exact λx a=>by have:=i x a;omega
 rw[ji,if_neg (by simp[hb]),o,if_neg II];exact uo.2 λj x a=>n x (List.mem_iff_getElem?.2 ⟨j,a⟩)
end Go.Proofs.YthnelebakkggjaaGreatDoor
