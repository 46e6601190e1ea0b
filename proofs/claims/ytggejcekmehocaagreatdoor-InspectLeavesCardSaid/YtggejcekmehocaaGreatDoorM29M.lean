/-
  warehouselaw29.made: the check.
-/
import Derived.Deep.DeepCutAuto
import Derived.Test.YtggejcekmehocaaGreatDoorGax
import Derived.Test.YtggejcekmehocaaGreatDoorGam
import Derived.Test.YtggejcekmehocaaGreatDoorBlk
import Derived.Test.YtggejcekmehocaaGreatDoorInvR
import Derived.Test.YtggejcekmehocaaGreatDoorGaz
import Derived.Test.YtggejcekmehocaaGreatDoorInsS
namespace Go.Proofs.YtggejcekmehocaaGreatDoor
set_option maxHeartbeats 4000000
set_option maxRecDepth 100000
open Go.RowKit Go.Maps
set_option linter.unusedSimpArgs false
set_option linter.unusedVariables false
theorem Blk.set14 {w:World}{g:Nat}{t:TypeId}{l:List Value}(h:Blk w g t l){a0 a1 a2 a3 a4 a5 a6 a7 a8 a9 a10 a11 a12 a13:Value}(hl:l.length=14):Blk ((((((((((((((w.setCell ⟨g,0,none⟩ a0).setCell ⟨g,1,none⟩ a1).setCell ⟨g,2,none⟩ a2).setCell ⟨g,3,none⟩ a3).setCell ⟨g,4,none⟩ a4).setCell ⟨g,5,none⟩ a5).setCell ⟨g,6,none⟩ a6).setCell ⟨g,7,none⟩ a7).setCell ⟨g,8,none⟩ a8).setCell ⟨g,9,none⟩ a9).setCell ⟨g,10,none⟩ a10).setCell ⟨g,11,none⟩ a11).setCell ⟨g,12,none⟩ a12).setCell ⟨g,13,none⟩ a13) g t [a0,a1,a2,a3,a4,a5,a6,a7,a8,a9,a10,a11,a12,a13]:=by
 have h1:=(((((((((((((h.set 0 a0).set 1 a1).set 2 a2).set 3 a3).set 4 a4).set 5 a5).set 6 a6).set 7 a7).set 8 a8).set 9 a9).set 10 a10).set 11 a11).set 12 a12).set 13 a13
 match l,hl with
 | [_,_,_,_,_,_,_,_,_,_,_,_,_,_],_=>exact h1
def Oth29 (w:World)(g2 g3 g4 g5 g6:Nat)(A:Option Addr)(n c:Nat)(wx:World):Prop:=Blk wx g2 32 [.string ⟨#[]⟩,.slice none 0 0,.slice none 0 0,.slice none 0 0]/\Blk wx g3 32 [.string ⟨#[]⟩,.slice none 0 0,.slice none 0 0,.slice none 0 0]/\Blk wx g4 32 [.string ⟨#[]⟩,.slice none 0 0,.slice none 0 0,.slice none 0 0]/\Blk wx g5 32 [.string ⟨#[]⟩,.slice none 0 0,.slice none 0 0,.slice none 0 0]/\Blk wx g6 51 [.slice A n c,.int .i64 0]/\Below w.heap.size w wx
theorem Oth29.grown {w wx W':World}{g1 g2 g3 g4 g5 g6:Nat}{A:Option Addr}{n c:Nat}(h:Oth29 w g2 g3 g4 g5 g6 A n c wx)(hg:wx.grownBy W' (some g1))(hw:w.heap.size<=g1)(hne:¬g1=g2/\¬g1=g3/\¬g1=g4/\¬g1=g5/\¬g1=g6):Oth29 w g2 g3 g4 g5 g6 A n c W':=by
 obtain ⟨h2,h3,h4,h5,h6,hb⟩:=h
 obtain ⟨n2,n3,n4,n5,n6⟩:=hne
 exact ⟨h2.grown hg λe=>n2 (by injection e with e;exact e.symm),h3.grown hg λe=>n3 (by injection e with e;exact e.symm),h4.grown hg λe=>n4 (by injection e with e;exact e.symm),h5.grown hg λe=>n5 (by injection e with e;exact e.symm),h6.grown hg λe=>n6 (by injection e with e;exact e.symm),below_of_grown hb hg hb.size hw⟩
theorem Oth29.below {w wx W':World}{g2 g3 g4 g5 g6:Nat}{A:Option Addr}{n c:Nat}(h:Oth29 w g2 g3 g4 g5 g6 A n c wx)(hb:Below wx.heap.size wx W'):Oth29 w g2 g3 g4 g5 g6 A n c W':=by
 obtain ⟨h2,h3,h4,h5,h6,hb0⟩:=h
 exact ⟨h2.below hb,h3.below hb,h4.below hb,h5.below hb,h6.below hb,below_trans hb0 hb⟩
theorem n29_new {V0:World}{g:Nat}{s:ByteArray}(hs:s.size<=8)(hg:V0.heap.size=g):In (V0.alloc (.cells #[.string s] 9)) (some ⟨g,0,none⟩) 1 1 [s]:=by
 subst hg
 exact in_built (heap_alloc_new V0 _) (Cells.one ⟨rfl,by show s.size<=9223372036854775807;omega⟩) rfl (by decide)
theorem n29_new2 {V0:World}{g:Nat}{s t:ByteArray}(hs:s.size<=8)(ht:t.size<=8)(hg:V0.heap.size=g):In (V0.alloc (.cells #[.string s,.string t] 9)) (some ⟨g,0,none⟩) 2 2 [s,t]:=by
 subst hg
 exact in_built (heap_alloc_new V0 _) ⟨[_],[_],rfl,⟨rfl,by show s.size<=9223372036854775807;omega⟩,Cells.one ⟨rfl,by show t.size<=9223372036854775807;omega⟩⟩ rfl (by decide)
theorem hi29 {V:World}{B d n c:Nat}{xs:List ByteArray}(h:In V (some ⟨d,0,none⟩) n c xs)(hd:B<=d):Hi B V (some ⟨d,0,none⟩) n c xs:=
 hi_of h (λ_ _ _ _ h=>h) λb off e=>by injection e with e;injection e with e1 e2;omega
theorem hi29n {V:World}{B d n c:Nat}{xs:List Node}(h:In V (some ⟨d,0,none⟩) n c xs)(hd:B<=d):Hi B V (some ⟨d,0,none⟩) n c xs:=
 hi_of h (λ_ _ _ _ h=>h) λb off e=>by injection e with e;injection e with e1 e2;omega
theorem hi29c {V:World}{B d n c:Nat}{xs:List Col}(h:In V (some ⟨d,0,none⟩) n c xs)(hd:B<=d):Hi B V (some ⟨d,0,none⟩) n c xs:=
 hi_of h (λ_ _ _ _ h=>h) λb off e=>by injection e with e;injection e with e1 e2;omega
theorem hi_nil {α:Type}[Rep α]{B:Nat}{V:World}:Hi (α:=α) B V none 0 0 []:=⟨rfl,Nat.le_refl _,by omega,λ_=>rfl,λh=>by omega⟩
theorem columns29_any (w:World):Calls Tryz.prog 21 #[] w
  λe w'=>(e=.returned (.slice (some ⟨w.heap.size,0,none⟩) 3 3)/\In w' (some ⟨w.heap.size,0,none⟩) 3 3 c29)/\Below w.heap.size w w':=by
 go_enter Tryz.func21,Tryz.ntmps21
 go_wp2
 go_ret
 exact ⟨⟨rfl,in_built (heap_alloc_new w _) (cells_cols c29 _ _ λx hx=>(c29_good x hx).1) rfl (by decide)⟩,below_alloc⟩
theorem n29_set {V:World}{g g1 n c:Nat}{xs:List ByteArray}(h:In V (some ⟨g,0,none⟩) n c xs)(hg:g1<g)(o:Nat)(v:Value):In (V.setCell ⟨g1,o,none⟩ v) (some ⟨g,0,none⟩) n c xs:=
 ((hi_of (B:=g) h (λ_ _ _ _ h=>h) λb off e=>by injection e with e;injection e with e1 e2;omega).grown grown_set λk e=>by injection e with e;omega).inn
theorem cells_nodes29 (xs:List Node)(w:World)(S:Nat->Prop)(h: ∀x∈xs,x.ok):Cells w S (xs.flatMap Node.cells) xs:=by
 induction xs with
 |nil=>rfl
 |cons x l ih=>exact ⟨x.cells,l.flatMap Node.cells,rfl,⟨rfl,h x (by simp)⟩,ih λy hy=>h y (by simp[hy])⟩
theorem l29_ok: ∀x∈l29,x.ok:=by
 intro x hx
 simp only[l29,List.mem_cons,List.not_mem_nil,or_false]at hx
 rcases hx with rfl|rfl|rfl <;> refine ⟨⟨by decide,by decide⟩,⟨⟨by decide,by decide⟩,⟨by decide,by decide⟩,?_⟩,?_,⟨by decide,by decide⟩⟩ <;> (unfold Str;decide)
theorem l29_new {V0:World}{g:Nat}(hg:V0.heap.size=g):In (V0.alloc (.cells #[.int .i64 1,.int .i64 0,.int .i64 0,.string ⟨#[]⟩,.string ⟨#[118]⟩,.int .i64 0,.int .i64 1,.int .i64 0,.int .i64 0,.string ⟨#[]⟩,.string ⟨#[105,100]⟩,.int .i64 0,.int .i64 12,.int .i64 0,.int .i64 0,.string ⟨#[]⟩,.string ⟨#[]⟩,.int .i64 0] 77)) (some ⟨g,0,none⟩) 3 3 l29:=by
 subst hg
 exact in_built (heap_alloc_new V0 _) (cells_nodes29 l29 _ _ l29_ok) rfl (by decide)
def rc29 (p:Nat):List ByteArray:=if p=0 then [nName] else if p=1 then [nV] else [nName,nId]
def ro29 (p:Nat):List ByteArray:=if p=0 then [nName] else if p=1 then [nId] else [nName,nV]
def Nm (B:Nat)(V:World)(d:Nat)(xs:List ByteArray):Prop:=B<=d/\Hi B V (some ⟨d,0,none⟩) xs.length xs.length xs
theorem Nm.mk {B d n:Nat}{V:World}{xs:List ByteArray}(h:In V (some ⟨d,0,none⟩) n n xs)(hd:B<=d)(hn:xs.length=n):Nm B V d xs:=by
 subst hn
 exact ⟨hd,hi_of h (λ_ _ _ _ h=>h) λb off e=>by injection e with e;injection e with e1 e2;omega⟩
def Up (B:Nat)(V V':World):Prop:=V.heap.size<=V'.heap.size/\ ∀k,B<=k->k<V.heap.size->V'.heap[k]?=V.heap[k]?
theorem Up.alloc (B:Nat)(V:World)(o:Obj):Up B V (V.alloc o):=⟨by simp,λk _ hk=>(below_alloc (w:=V) (o:=o)).block k hk⟩
theorem Up.set {B g:Nat}(V:World)(hg:g<B)(o:Nat)(v:Value):Up B V (V.setCell ⟨g,o,none⟩ v):=⟨by simp,λk hk _=>Below.heap_setCell _ _ _ k (λe=>by have e:k=g:=e;omega)⟩
theorem Nm.up {B d:Nat}{V V':World}{xs:List ByteArray}(h:Nm B V d xs)(hu:Up B V V'):Nm B V' d xs:=
 ⟨h.1,(h.2.keep λk (hk:B<=k/\k<V.heap.size)=>hu.2 k hk.1 hk.2).mono λk (hk:B<=k/\k<V.heap.size)=>⟨hk.1,Nat.lt_of_lt_of_le hk.2 hu.1⟩⟩
def deps13:Nat->List Nat
 | 3=>[0,1,2]
 | 5=>[4]
 | 6=>[5]
 | 7=>[3,6]
 | 8=>[7]
 | 10=>[9]
 | 12=>[8,10,11]
 | _=>[]
structure Inv13 (B:Nat) (kind:Int) (p g1 b m:Nat) (O:World->Prop) (V:World) (v58 v59 v60 v61 v62 v63 v64 v65 v66 v67 v68:Value) (b0 b1 b2 b3 b4 b5 b6 b7 b8 b9 b10 b11 b12:Bool):Prop where
 oth:O V
 size:B<=V.heap.size
 nm:Nm B V b (rc29 p)
 blk: ∃s A5 n5 c5,Blk V g1 27 [.string ⟨#[99]⟩,.string ⟨#[]⟩,.int .i64 3,.slice (some ⟨b,0,none⟩) m m,.string s,.slice A5 n5 c5,.int .i64 0,.int .i64 0,.slice none 0 0,.int .i64 0,.int .i64 0,.int .i64 0,.int .i64 0,.int .i64 1]/\(b10=true->s=⟨#[111]⟩)/\(b12=true-> ∃d,A5=some ⟨d,0,none⟩/\n5=(ro29 p).length/\c5=(ro29 p).length/\Nm B V d (ro29 p))
 f0:b0=true-> ∃d,v58=.slice (some ⟨d,0,none⟩) 1 1/\Nm B V d [nName]
 f1:b1=true-> ∃d,v59=.slice (some ⟨d,0,none⟩) 1 1/\Nm B V d [nId]
 f2:b2=true-> ∃d,v60=.slice (some ⟨d,0,none⟩) 2 2/\Nm B V d [nName,nV]
 f3:b3=true-> ∃d d0 d1 d2,v61=.slice (some ⟨d,0,none⟩) 3 3/\B<=d/\Blk V d 22 [.slice (some ⟨d0,0,none⟩) 1 1,.slice (some ⟨d1,0,none⟩) 1 1,.slice (some ⟨d2,0,none⟩) 2 2]/\Nm B V d0 [nName]/\Nm B V d1 [nId]/\Nm B V d2 [nName,nV]
 f4:b4=true->v62=.int .i64 kind
 f5:b5=true->v63=.int .i64 (kind.tdiv 7)
 f6:b6=true->v64=.int .i64 (p:Int)
 f7:b7=true-> ∃d e,v65=.pointer (some ⟨d,p,none⟩)/\B<=d/\V.cell? ⟨d,p,none⟩=some (.slice (some ⟨e,0,none⟩) (ro29 p).length (ro29 p).length)/\Nm B V e (ro29 p)
 f8:b8=true-> ∃e,v66=.slice (some ⟨e,0,none⟩) (ro29 p).length (ro29 p).length/\Nm B V e (ro29 p)
 f9:b9=true->v67=.pointer (some ⟨g1,4,none⟩)
 f11:b11=true->v68=.pointer (some ⟨g1,5,none⟩)
theorem blk_up {B d:Nat}{V V':World}{t:TypeId}{l:List Value}(h:Blk V d t l)(hd:B<=d)(hu:Up B V V'):Blk V' d t l:=(hu.2 d hd h.lt).trans h
theorem cell_up {B d o:Nat}{V V':World}{v:Value}(h:V.cell? ⟨d,o,none⟩=some v)(hd:B<=d)(hu:Up B V V'):V'.cell? ⟨d,o,none⟩=some v:=(World.cell?_of_block (a:=⟨d,o,none⟩) (hu.2 d hd (lt_of_cell h))).trans h
theorem Inv13.upB {B:Nat}{kind:Int}{p g1 b m:Nat}{O:World->Prop}{V V':World}{v58 v59 v60 v61 v62 v63 v64 v65 v66 v67 v68:Value}{b0 b1 b2 b3 b4 b5 b6 b7 b8 b9 b10 b11 b12 q10 q12:Bool}(h:Inv13 B kind p g1 b m O V v58 v59 v60 v61 v62 v63 v64 v65 v66 v67 v68 b0 b1 b2 b3 b4 b5 b6 b7 b8 b9 b10 b11 b12)(hu:Up B V V')(ho:O V')(hb: ∃s A5 n5 c5,Blk V' g1 27 [.string ⟨#[99]⟩,.string ⟨#[]⟩,.int .i64 3,.slice (some ⟨b,0,none⟩) m m,.string s,.slice A5 n5 c5,.int .i64 0,.int .i64 0,.slice none 0 0,.int .i64 0,.int .i64 0,.int .i64 0,.int .i64 0,.int .i64 1]/\(q10=true->s=⟨#[111]⟩)/\(q12=true-> ∃d,A5=some ⟨d,0,none⟩/\n5=(ro29 p).length/\c5=(ro29 p).length/\Nm B V' d (ro29 p))):Inv13 B kind p g1 b m O V' v58 v59 v60 v61 v62 v63 v64 v65 v66 v67 v68 b0 b1 b2 b3 b4 b5 b6 b7 b8 b9 q10 b11 q12 where
 oth:=ho
 size:=Nat.le_trans h.size hu.1
 nm:=h.nm.up hu
 blk:=hb
 f0:=λq=>by obtain ⟨d,e,h1⟩:=h.f0 q;exact ⟨d,e,h1.up hu⟩
 f1:=λq=>by obtain ⟨d,e,h1⟩:=h.f1 q;exact ⟨d,e,h1.up hu⟩
 f2:=λq=>by obtain ⟨d,e,h1⟩:=h.f2 q;exact ⟨d,e,h1.up hu⟩
 f3:=λq=>by obtain ⟨d,d0,d1,d2,e,h0,h1,h2,h3,h4⟩:=h.f3 q;exact ⟨d,d0,d1,d2,e,h0,blk_up h1 h0 hu,h2.up hu,h3.up hu,h4.up hu⟩
 f4:=h.f4
 f5:=h.f5
 f6:=h.f6
 f7:=λq=>by obtain ⟨d,e,h1,h2,h3,h4⟩:=h.f7 q;exact ⟨d,e,h1,h2,cell_up h3 h2 hu,h4.up hu⟩
 f8:=λq=>by obtain ⟨e,h1,h2⟩:=h.f8 q;exact ⟨e,h1,h2.up hu⟩
 f9:=h.f9
 f11:=h.f11
theorem Inv13.alloc {B:Nat}{kind:Int}{p g1 b m:Nat}{O:World->Prop}{V:World}{v58 v59 v60 v61 v62 v63 v64 v65 v66 v67 v68:Value}{b0 b1 b2 b3 b4 b5 b6 b7 b8 b9 b10 b11 b12:Bool}(h:Inv13 B kind p g1 b m O V v58 v59 v60 v61 v62 v63 v64 v65 v66 v67 v68 b0 b1 b2 b3 b4 b5 b6 b7 b8 b9 b10 b11 b12)(hO: ∀V V',Below V.heap.size V V'->O V->O V')(o:Obj):Inv13 B kind p g1 b m O (V.alloc o) v58 v59 v60 v61 v62 v63 v64 v65 v66 v67 v68 b0 b1 b2 b3 b4 b5 b6 b7 b8 b9 b10 b11 b12:=
 h.upB (Up.alloc B V o) (hO _ _ below_alloc h.oth) (by obtain ⟨s,A5,n5,c5,h1,h2,h3⟩:=h.blk;exact ⟨s,A5,n5,c5,h1.below below_alloc,h2,λq=>by obtain ⟨d,e1,e2,e3,h4⟩:=h3 q;exact ⟨d,e1,e2,e3,h4.up (Up.alloc B V o)⟩⟩)
theorem ro29_mem {p:Nat}(hp:p<3):chk29 3 (rc29 p) ⟨#[111]⟩ (ro29 p) 0 [] 0 0 0 0∈made29:=by
 obtain rfl|rfl|rfl:p=0\/p=1\/p=2:=by omega
 ·simp[rc29,ro29,made29]
 ·simp[rc29,ro29,made29]
 ·simp[rc29,ro29,made29]
theorem Hi.up {α:Type}[Rep α]{B n c:Nat}{V V':World}{A:Option Addr}{xs:List α}(h:Hi B V A n c xs)(hu:Up B V V'):Hi B V' A n c xs:=
 (Sl.keep (λk (hk:B<=k/\k<V.heap.size)=>hu.2 k hk.1 hk.2) h).mono λk (hk:B<=k/\k<V.heap.size)=>⟨hk.1,Nat.lt_of_lt_of_le hk.2 hu.1⟩
theorem Up.below {B:Nat}{V V':World}(hb:Below V.heap.size V V'):Up B V V':=⟨hb.size,λk _ hk=>hb.block k hk⟩
theorem Up.grown {B g:Nat}{V V':World}(hg:V.grownBy V' (some g))(h:g<B):Up B V V':=⟨hg.size,λk hk h2=>hg.block k h2 λe=>by injection e with e;omega⟩
def St (B:Nat)(F:World->Prop):Prop:= ∀V V',Up B V V'->F V->F V'
theorem Blk.off29 {V V':World}{g k:Nat}{t:TypeId}{l:List Value}(h:Blk V g t l)(hg:V.grownBy V' (some k))(hne:¬g=k):Blk V' g t l:=h.grown hg λe=>hne (by injection e)
structure G29 (w:World) (g1 g2 g3 g4 g5 g6:Nat) (A:Option Addr) (n c:Nat) (kc vr vo vx vy:List Value) (F:World->Prop) (V:World):Prop where
 kc:Blk V g1 27 kc
 kr:Blk V g2 32 vr
 ko:Blk V g3 32 vo
 kx:Blk V g4 32 vx
 ky:Blk V g5 32 vy
 num: ∃j:Nat,j<=n/\Blk V g6 51 [.slice A n c,.int .i64 j]
 below:Below w.heap.size w V
 f:F V
def Ord6 (w:World)(g1 g2 g3 g4 g5 g6:Nat):Prop:=w.heap.size<=g1/\g1<g2/\g2<g3/\g3<g4/\g4<g5/\g5<g6
theorem blk_of_row {V:World}{g:Nat}{t:TypeId}{a b:Value}(h:RowBlk V g t 2)(h0:V.cell? ⟨g,0,none⟩=some a)(h1:V.cell? ⟨g,1,none⟩=some b):Blk V g t [a,b]:=by
 obtain ⟨cur,hc,hs⟩:=h
 rw[cell_of_row V g 0 _ _ _ hc]at h0
 rw[cell_of_row V g 1 _ _ _ hc]at h1
 have e:cur=[a,b].toArray:=by
  apply Array.ext_getElem?
  intro i
  match i with
  | 0=>rw[h0];rfl
  | 1=>rw[h1];rfl
  |i+2=>rw[Array.getElem?_eq_none (by omega)];rfl
 rw[Blk,hc,e]
theorem G29.numb {w:World}{g1 g2 g3 g4 g5 g6:Nat}{A:Option Addr}{n c:Nat}{kc vr vo vx vy:List Value}{F:World->Prop}{V:World}{l:List Int}(h:G29 w g1 g2 g3 g4 g5 g6 A n c kc vr vo vx vy F V)(o:Ord6 w g1 g2 g3 g4 g5 g6)(hl:In w A n c l)(hn:n<=1048576): ∃j,Num V g6 A n c l j:=by
 obtain ⟨j,hj,hb⟩:=h.num
 unfold Ord6 at o
 exact ⟨j,hb.at 0 rfl,hb.at 1 rfl,⟨_,hb,rfl⟩,(Sl.keep (Same.below h.below) hl).mono λk (hk:k<w.heap.size)=>by omega,hj,hn⟩
theorem Num.back {V:World}{g:Nat}{A:Option Addr}{n c:Nat}{l:List Int}{j:Nat}(h:Num V g A n c l j): ∃j:Nat,j<=n/\Blk V g 51 [.slice A n c,.int .i64 j]:=⟨j,h.le,blk_of_row h.blk h.c0 h.c1⟩
theorem G29.bel {w:World}{g1 g2 g3 g4 g5 g6:Nat}{A:Option Addr}{n c:Nat}{kc vr vo vx vy:List Value}{F:World->Prop}{V V':World}(h:G29 w g1 g2 g3 g4 g5 g6 A n c kc vr vo vx vy F V)(hF:St (g6+1) F)(hb:Below V.heap.size V V'):G29 w g1 g2 g3 g4 g5 g6 A n c kc vr vo vx vy F V':=
 ⟨h.kc.below hb,h.kr.below hb,h.ko.below hb,h.kx.below hb,h.ky.below hb,(by obtain ⟨j,hj,h6⟩:=h.num;exact ⟨j,hj,h6.below hb⟩),below_trans h.below hb,hF _ _ (Up.below hb) h.f⟩
theorem G29.gr {w:World}{g1 g2 g3 g4 g5 g6:Nat}{A:Option Addr}{n c:Nat}{kc vr vo vx vy:List Value}{F:World->Prop}{V V':World}{l:List Int}{j:Nat}(h:G29 w g1 g2 g3 g4 g5 g6 A n c kc vr vo vx vy F V)(o:Ord6 w g1 g2 g3 g4 g5 g6)(hF:St (g6+1) F)(hg:V.grownBy V' (some g6))(hn:Num V' g6 A n c l j):G29 w g1 g2 g3 g4 g5 g6 A n c kc vr vo vx vy F V':=by
 unfold Ord6 at o
 exact ⟨h.kc.off29 hg (by omega),h.kr.off29 hg (by omega),h.ko.off29 hg (by omega),h.kx.off29 hg (by omega),h.ky.off29 hg (by omega),hn.back,below_of_grown h.below hg h.below.size (by omega),hF _ _ (Up.grown hg (by omega)) h.f⟩
theorem G29.mapF {w:World}{g1 g2 g3 g4 g5 g6:Nat}{A:Option Addr}{n c:Nat}{kc vr vo vx vy:List Value}{F:World->Prop}{V:World}{F':World->Prop}(h:G29 w g1 g2 g3 g4 g5 g6 A n c kc vr vo vx vy F V)(hf:F' V):G29 w g1 g2 g3 g4 g5 g6 A n c kc vr vo vx vy F' V:=⟨h.kc,h.kr,h.ko,h.kx,h.ky,h.num,h.below,hf⟩
theorem G29.setR {w:World}{g1 g2 g3 g4 g5 g6:Nat}{A:Option Addr}{n c:Nat}{kc vr vo vx vy:List Value}{F:World->Prop}{V:World}(h:G29 w g1 g2 g3 g4 g5 g6 A n c kc vr vo vx vy F V)(o:Ord6 w g1 g2 g3 g4 g5 g6)(hF:St (g6+1) F)(hl:vr.length=4)(a0 a1 a2 a3:Value):G29 w g1 g2 g3 g4 g5 g6 A n c kc [a0,a1,a2,a3] vo vx vy F ((((V.setCell ⟨g2,0,none⟩ a0).setCell ⟨g2,1,none⟩ a1).setCell ⟨g2,2,none⟩ a2).setCell ⟨g2,3,none⟩ a3):=by
 unfold Ord6 at o
 have hg:V.grownBy ((((V.setCell ⟨g2,0,none⟩ a0).setCell ⟨g2,1,none⟩ a1).setCell ⟨g2,2,none⟩ a2).setCell ⟨g2,3,none⟩ a3) (some g2):=((grown_set.trans grown_set).trans grown_set).trans grown_set
 exact ⟨h.kc.off29 hg (by omega),h.kr.set4 hl,h.ko.off29 hg (by omega),h.kx.off29 hg (by omega),h.ky.off29 hg (by omega),(by obtain ⟨j,hj,h6⟩:=h.num;exact ⟨j,hj,h6.off29 hg (by omega)⟩),below_of_grown h.below hg h.below.size (by omega),hF _ _ (Up.grown hg (by omega)) h.f⟩
theorem G29.setO {w:World}{g1 g2 g3 g4 g5 g6:Nat}{A:Option Addr}{n c:Nat}{kc vr vo vx vy:List Value}{F:World->Prop}{V:World}(h:G29 w g1 g2 g3 g4 g5 g6 A n c kc vr vo vx vy F V)(o:Ord6 w g1 g2 g3 g4 g5 g6)(hF:St (g6+1) F)(hl:vo.length=4)(a0 a1 a2 a3:Value):G29 w g1 g2 g3 g4 g5 g6 A n c kc vr [a0,a1,a2,a3] vx vy F ((((V.setCell ⟨g3,0,none⟩ a0).setCell ⟨g3,1,none⟩ a1).setCell ⟨g3,2,none⟩ a2).setCell ⟨g3,3,none⟩ a3):=by
 unfold Ord6 at o
 have hg:V.grownBy ((((V.setCell ⟨g3,0,none⟩ a0).setCell ⟨g3,1,none⟩ a1).setCell ⟨g3,2,none⟩ a2).setCell ⟨g3,3,none⟩ a3) (some g3):=((grown_set.trans grown_set).trans grown_set).trans grown_set
 exact ⟨h.kc.off29 hg (by omega),h.kr.off29 hg (by omega),h.ko.set4 hl,h.kx.off29 hg (by omega),h.ky.off29 hg (by omega),(by obtain ⟨j,hj,h6⟩:=h.num;exact ⟨j,hj,h6.off29 hg (by omega)⟩),below_of_grown h.below hg h.below.size (by omega),hF _ _ (Up.grown hg (by omega)) h.f⟩
theorem G29.setX {w:World}{g1 g2 g3 g4 g5 g6:Nat}{A:Option Addr}{n c:Nat}{kc vr vo vx vy:List Value}{F:World->Prop}{V:World}(h:G29 w g1 g2 g3 g4 g5 g6 A n c kc vr vo vx vy F V)(o:Ord6 w g1 g2 g3 g4 g5 g6)(hF:St (g6+1) F)(hl:vx.length=4)(a0 a1 a2 a3:Value):G29 w g1 g2 g3 g4 g5 g6 A n c kc vr vo [a0,a1,a2,a3] vy F ((((V.setCell ⟨g4,0,none⟩ a0).setCell ⟨g4,1,none⟩ a1).setCell ⟨g4,2,none⟩ a2).setCell ⟨g4,3,none⟩ a3):=by
 unfold Ord6 at o
 have hg:V.grownBy ((((V.setCell ⟨g4,0,none⟩ a0).setCell ⟨g4,1,none⟩ a1).setCell ⟨g4,2,none⟩ a2).setCell ⟨g4,3,none⟩ a3) (some g4):=((grown_set.trans grown_set).trans grown_set).trans grown_set
 exact ⟨h.kc.off29 hg (by omega),h.kr.off29 hg (by omega),h.ko.off29 hg (by omega),h.kx.set4 hl,h.ky.off29 hg (by omega),(by obtain ⟨j,hj,h6⟩:=h.num;exact ⟨j,hj,h6.off29 hg (by omega)⟩),below_of_grown h.below hg h.below.size (by omega),hF _ _ (Up.grown hg (by omega)) h.f⟩
theorem G29.oneX {w:World}{g1 g2 g3 g4 g5 g6:Nat}{A:Option Addr}{n c:Nat}{kc vr vo vx vy:List Value}{F:World->Prop}{V:World}(h:G29 w g1 g2 g3 g4 g5 g6 A n c kc vr vo vx vy F V)(o:Ord6 w g1 g2 g3 g4 g5 g6)(hF:St (g6+1) F)(a:Value):G29 w g1 g2 g3 g4 g5 g6 A n c kc vr vo (vx.set 3 a) vy F (V.setCell ⟨g4,3,none⟩ a):=by
 unfold Ord6 at o
 have hg:V.grownBy (V.setCell ⟨g4,3,none⟩ a) (some g4):=grown_set
 exact ⟨h.kc.off29 hg (by omega),h.kr.off29 hg (by omega),h.ko.off29 hg (by omega),h.kx.set 3 a,h.ky.off29 hg (by omega),(by obtain ⟨j,hj,h6⟩:=h.num;exact ⟨j,hj,h6.off29 hg (by omega)⟩),below_of_grown h.below hg h.below.size (by omega),hF _ _ (Up.grown hg (by omega)) h.f⟩
theorem G29.setY {w:World}{g1 g2 g3 g4 g5 g6:Nat}{A:Option Addr}{n c:Nat}{kc vr vo vx vy:List Value}{F:World->Prop}{V:World}(h:G29 w g1 g2 g3 g4 g5 g6 A n c kc vr vo vx vy F V)(o:Ord6 w g1 g2 g3 g4 g5 g6)(hF:St (g6+1) F)(hl:vy.length=4)(a0 a1 a2 a3:Value):G29 w g1 g2 g3 g4 g5 g6 A n c kc vr vo vx [a0,a1,a2,a3] F ((((V.setCell ⟨g5,0,none⟩ a0).setCell ⟨g5,1,none⟩ a1).setCell ⟨g5,2,none⟩ a2).setCell ⟨g5,3,none⟩ a3):=by
 unfold Ord6 at o
 have hg:V.grownBy ((((V.setCell ⟨g5,0,none⟩ a0).setCell ⟨g5,1,none⟩ a1).setCell ⟨g5,2,none⟩ a2).setCell ⟨g5,3,none⟩ a3) (some g5):=((grown_set.trans grown_set).trans grown_set).trans grown_set
 exact ⟨h.kc.off29 hg (by omega),h.kr.off29 hg (by omega),h.ko.off29 hg (by omega),h.kx.off29 hg (by omega),h.ky.set4 hl,(by obtain ⟨j,hj,h6⟩:=h.num;exact ⟨j,hj,h6.off29 hg (by omega)⟩),below_of_grown h.below hg h.below.size (by omega),hF _ _ (Up.grown hg (by omega)) h.f⟩
theorem G29.oneY {w:World}{g1 g2 g3 g4 g5 g6:Nat}{A:Option Addr}{n c:Nat}{kc vr vo vx vy:List Value}{F:World->Prop}{V:World}(h:G29 w g1 g2 g3 g4 g5 g6 A n c kc vr vo vx vy F V)(o:Ord6 w g1 g2 g3 g4 g5 g6)(hF:St (g6+1) F)(a:Value):G29 w g1 g2 g3 g4 g5 g6 A n c kc vr vo vx (vy.set 3 a) F (V.setCell ⟨g5,3,none⟩ a):=by
 unfold Ord6 at o
 have hg:V.grownBy (V.setCell ⟨g5,3,none⟩ a) (some g5):=grown_set
 exact ⟨h.kc.off29 hg (by omega),h.kr.off29 hg (by omega),h.ko.off29 hg (by omega),h.kx.off29 hg (by omega),h.ky.set 3 a,(by obtain ⟨j,hj,h6⟩:=h.num;exact ⟨j,hj,h6.off29 hg (by omega)⟩),below_of_grown h.below hg h.below.size (by omega),hF _ _ (Up.grown hg (by omega)) h.f⟩
theorem G29.setK {w:World}{g1 g2 g3 g4 g5 g6:Nat}{A:Option Addr}{n c:Nat}{kc vr vo vx vy:List Value}{F:World->Prop}{V:World}(h:G29 w g1 g2 g3 g4 g5 g6 A n c kc vr vo vx vy F V)(o:Ord6 w g1 g2 g3 g4 g5 g6)(hF:St (g6+1) F)(hl:kc.length=14)(a0 a1 a2 a3 a4 a5 a6 a7 a8 a9 a10 a11 a12 a13:Value):G29 w g1 g2 g3 g4 g5 g6 A n c [a0,a1,a2,a3,a4,a5,a6,a7,a8,a9,a10,a11,a12,a13] vr vo vx vy F ((((((((((((((V.setCell ⟨g1,0,none⟩ a0).setCell ⟨g1,1,none⟩ a1).setCell ⟨g1,2,none⟩ a2).setCell ⟨g1,3,none⟩ a3).setCell ⟨g1,4,none⟩ a4).setCell ⟨g1,5,none⟩ a5).setCell ⟨g1,6,none⟩ a6).setCell ⟨g1,7,none⟩ a7).setCell ⟨g1,8,none⟩ a8).setCell ⟨g1,9,none⟩ a9).setCell ⟨g1,10,none⟩ a10).setCell ⟨g1,11,none⟩ a11).setCell ⟨g1,12,none⟩ a12).setCell ⟨g1,13,none⟩ a13):=by
 unfold Ord6 at o
 have hg:V.grownBy ((((((((((((((V.setCell ⟨g1,0,none⟩ a0).setCell ⟨g1,1,none⟩ a1).setCell ⟨g1,2,none⟩ a2).setCell ⟨g1,3,none⟩ a3).setCell ⟨g1,4,none⟩ a4).setCell ⟨g1,5,none⟩ a5).setCell ⟨g1,6,none⟩ a6).setCell ⟨g1,7,none⟩ a7).setCell ⟨g1,8,none⟩ a8).setCell ⟨g1,9,none⟩ a9).setCell ⟨g1,10,none⟩ a10).setCell ⟨g1,11,none⟩ a11).setCell ⟨g1,12,none⟩ a12).setCell ⟨g1,13,none⟩ a13) (some g1):=(((((((((((((grown_set.trans grown_set).trans grown_set).trans grown_set).trans grown_set).trans grown_set).trans grown_set).trans grown_set).trans grown_set).trans grown_set).trans grown_set).trans grown_set).trans grown_set).trans grown_set)
 exact ⟨h.kc.set14 hl,h.kr.off29 hg (by omega),h.ko.off29 hg (by omega),h.kx.off29 hg (by omega),h.ky.off29 hg (by omega),(by obtain ⟨j,hj,h6⟩:=h.num;exact ⟨j,hj,h6.off29 hg (by omega)⟩),below_of_grown h.below hg h.below.size (by omega),hF _ _ (Up.grown hg (by omega)) h.f⟩
theorem results_c5 {P:Program}{fn:Func}{p1 p2 p3 p4 p5:Tmp}{t1 t2:TypeId}{cs r1 r2 r3 r4:List Value}(h:fn.results= #[.cell p1 t1,.cell p2 t2,.cell p3 t2,.cell p4 t2,.cell p5 t2])(tmps:Array Value)(w:World)(g1 g2 g3 g4 g5:Nat)(d1 d2:TypeDesc)(q1:tmps.getD p1 undef=.pointer (some ⟨g1,0,none⟩))(q2:tmps.getD p2 undef=.pointer (some ⟨g2,0,none⟩))(q3:tmps.getD p3 undef=.pointer (some ⟨g3,0,none⟩))(q4:tmps.getD p4 undef=.pointer (some ⟨g4,0,none⟩))(q5:tmps.getD p5 undef=.pointer (some ⟨g5,0,none⟩))(c1: ∀j v,cs[j]?=some v->w.cell? ⟨g1,j,none⟩=some v)(c2: ∀j v,r1[j]?=some v->w.cell? ⟨g2,j,none⟩=some v)(c3: ∀j v,r2[j]?=some v->w.cell? ⟨g3,j,none⟩=some v)(c4: ∀j v,r3[j]?=some v->w.cell? ⟨g4,j,none⟩=some v)(c5: ∀j v,r4[j]?=some v->w.cell? ⟨g5,j,none⟩=some v)(hu:P.underlying t1=some d1)(hd:(match d1 with| .struct _| .array _ _=>true| _=>false)=true)(hi:(P.info? t1).map (·.size)=some cs.length)(hu2:P.underlying t2=some d2)(hd2:(match d2 with| .struct _| .array _ _=>true| _=>false)=true)(e1:r1.length=4)(e2:r2.length=4)(e3:r3.length=4)(e4:r4.length=4)(hi2:(P.info? t2).map (·.size)=some 4):
  (results fn tmps).run P w=.ok (.tuple #[.agg cs.toArray,.agg r1.toArray,.agg r2.toArray,.agg r3.toArray,.agg r4.toArray]) w:=by
 have l1:=loadVar_cells (P:=P) fn w g1 cs d1 c1 hu hd hi
 have l2:=loadVar_cells (P:=P) fn w g2 r1 d2 c2 hu2 hd2 (by rw[hi2,e1])
 have l3:=loadVar_cells (P:=P) fn w g3 r2 d2 c3 hu2 hd2 (by rw[hi2,e2])
 have l4:=loadVar_cells (P:=P) fn w g4 r3 d2 c4 hu2 hd2 (by rw[hi2,e3])
 have l5:=loadVar_cells (P:=P) fn w g5 r4 d2 c5 hu2 hd2 (by rw[hi2,e4])
 have p1':tmps[p1]?.getD undef=.pointer (some ⟨g1,0,none⟩):=by simpa using q1
 have p2':tmps[p2]?.getD undef=.pointer (some ⟨g2,0,none⟩):=by simpa using q2
 have p3':tmps[p3]?.getD undef=.pointer (some ⟨g3,0,none⟩):=by simpa using q3
 have p4':tmps[p4]?.getD undef=.pointer (some ⟨g4,0,none⟩):=by simpa using q4
 have p5':tmps[p5]?.getD undef=.pointer (some ⟨g5,0,none⟩):=by simpa using q5
 simp[results,h,p1',p2',p3',p4',p5',asAddr,l1,l2,l3,l4,l5]
def Made29 (w':World)(e:Ending):Prop:=
 ∃(cc:Chk) (A':Option Addr) (n' c':Nat) (A'':Option Addr) (n'' c'':Nat) (A3:Option Addr) (n3 c3:Nat) (A1 A2 A5:Option Addr) (n5 c5:Nat) (A6:Option Addr) (n6 c6:Nat) (A7:Option Addr) (n7 c7:Nat) (A8:Option Addr) (n8 c8:Nat) (rows orows xs ys:List Ent),
  e=.returned (.tuple #[.agg (chkCells cc A' n' c' A'' n'' c'' A3 n3 c3).toArray,.agg #[.string ⟨#[114]⟩,.slice A1 3 3,.slice none 0 0,.slice A5 n5 c5],.agg #[.string ⟨#[111]⟩,.slice A2 3 3,.slice none 0 0,.slice A6 n6 c6],.agg #[.string ⟨#[114]⟩,.slice A1 3 3,.slice none 0 0,.slice A7 n7 c7],.agg #[.string ⟨#[111]⟩,.slice A2 3 3,.slice none 0 0,.slice A8 n8 c8]])/\
  cc∈made29/\In w' A' n' c' cc.cols/\In w' A'' n'' c'' cc.ocols/\In w' A3 n3 c3 cc.cond/\In w' A1 3 3 c29/\In w' A2 3 3 c29/\In w' A5 n5 c5 rows/\In w' A6 n6 c6 orows/\In w' A7 n7 c7 xs/\In w' A8 n8 c8 ys/\
  Tb c29 1000 2000 rows/\Tb c29 1000 2000 orows/\Mv c29 rows xs 3/\Mv c29 orows ys 3
theorem made29_any (w:World)(A:Option Addr)(n c:Nat)(l:List Int)(hl:In w A n c l)(hn:n<=200)(kind:Int)(hk:I64 kind):
  Calls Tryz.prog 16 #[.slice A n c,.int .i64 kind] w λe w'=>Made29 w' e/\Below w.heap.size w w':=by
 have HL:=hide hl
 clear hl
 have h63:=HL.out.le
 have wq:IntKind.i64.wrap (kind.tdiv 7)=kind.tdiv 7:=IntWalk.i64_in _ (by
  unfold I64 at hk
  by_cases h:0<=kind
  ·rw[Int.tdiv_eq_ediv_of_nonneg h];omega
  ·obtain ⟨m,rfl⟩: ∃m:Int,kind= -m:=⟨-kind,by omega⟩
   rw[Int.neg_tdiv,Int.tdiv_eq_ediv_of_nonneg (by omega)];omega)
 have hk0:0<=kind % 7:=Int.emod_nonneg _ (by omega)
 have hk1:kind % 7<7:=Int.emod_lt_of_pos _ (by omega)
 go_enter Tryz.func16,Tryz.ntmps16
 go_upto_region 2 with (fail)
 obtain ⟨W901,hW901⟩: ∃W,W=w.alloc (.cells #[.string ⟨#[]⟩,.string ⟨#[]⟩,.int .i64 0,.slice none 0 0,.string ⟨#[]⟩,.slice none 0 0,.int .i64 0,.int .i64 0,.slice none 0 0,.int .i64 0,.int .i64 0,.int .i64 0,.int .i64 0,.int .i64 0] 27):=⟨_,rfl⟩
 obtain ⟨g1,hg1⟩: ∃q,q=w.heap.size:=⟨_,rfl⟩
 have KC:Hid (Blk W901 g1 27 [.string ⟨#[]⟩,.string ⟨#[]⟩,.int .i64 0,.slice none 0 0,.string ⟨#[]⟩,.slice none 0 0,.int .i64 0,.int .i64 0,.slice none 0 0,.int .i64 0,.int .i64 0,.int .i64 0,.int .i64 0,.int .i64 0]):=hide (by rw[hW901,hg1];exact Blk.made _ _ _)
 have SZg1:Hid (W901.heap.size=g1+1):=hide (by rw[hW901,hg1];exact World.size_alloc _ _)
 have LBg1:Hid (Below w.heap.size w W901):=hide (by rw[hW901];exact below_alloc)
 have HGg1:Hid (w.heap.size<=g1):=hide (by rw[hg1];exact Nat.le_refl _)
 rw[<-hW901,<-hg1]
 have HEg1:=hide hg1
 clear hW901 hg1
 have LHBg1:=hide LBg1.out
 obtain ⟨W902,hW902⟩: ∃W,W=W901.alloc (.cells #[.string ⟨#[]⟩,.slice none 0 0,.slice none 0 0,.slice none 0 0] 32):=⟨_,rfl⟩
 obtain ⟨g2,hg2⟩: ∃q,q=W901.heap.size:=⟨_,rfl⟩
 have KR:Hid (Blk W902 g2 32 [.string ⟨#[]⟩,.slice none 0 0,.slice none 0 0,.slice none 0 0]):=hide (by rw[hW902,hg2];exact Blk.made _ _ _)
 have SZg2:Hid (W902.heap.size=g2+1):=hide (by rw[hW902,hg2];exact World.size_alloc _ _)
 have LBg2:Hid (Below W901.heap.size W901 W902):=hide (by rw[hW902];exact below_alloc)
 have HGg2:Hid (w.heap.size<=g2):=hide (by rw[hg2];exact LHBg1.out.size)
 have NEg1_g2:Hid (¬g1=g2):=hide (by have h:=KC.out.lt;omega)
 have hqg2:g2=g1+1:=by rw[hg2];exact SZg1.out
 rw[<-hW902,<-hqg2]
 clear hqg2
 have HEg2:=hide hg2
 clear hW902 hg2
 have KC:=hide (KC.out.below LBg2.out)
 have LHBg2:=hide (below_trans LHBg1.out LBg2.out)
 obtain ⟨W903,hW903⟩: ∃W,W=W902.alloc (.cells #[.string ⟨#[]⟩,.slice none 0 0,.slice none 0 0,.slice none 0 0] 32):=⟨_,rfl⟩
 obtain ⟨g3,hg3⟩: ∃q,q=W902.heap.size:=⟨_,rfl⟩
 have KO:Hid (Blk W903 g3 32 [.string ⟨#[]⟩,.slice none 0 0,.slice none 0 0,.slice none 0 0]):=hide (by rw[hW903,hg3];exact Blk.made _ _ _)
 have SZg3:Hid (W903.heap.size=g3+1):=hide (by rw[hW903,hg3];exact World.size_alloc _ _)
 have LBg3:Hid (Below W902.heap.size W902 W903):=hide (by rw[hW903];exact below_alloc)
 have HGg3:Hid (w.heap.size<=g3):=hide (by rw[hg3];exact LHBg2.out.size)
 have NEg1_g3:Hid (¬g1=g3):=hide (by have h:=KC.out.lt;omega)
 have NEg2_g3:Hid (¬g2=g3):=hide (by have h:=KR.out.lt;omega)
 have hqg3:g3=g2+1:=by rw[hg3];exact SZg2.out
 rw[<-hW903,<-hqg3]
 clear hqg3
 have HEg3:=hide hg3
 clear hW903 hg3
 have KC:=hide (KC.out.below LBg3.out)
 have KR:=hide (KR.out.below LBg3.out)
 have LHBg3:=hide (below_trans LHBg2.out LBg3.out)
 obtain ⟨W904,hW904⟩: ∃W,W=W903.alloc (.cells #[.string ⟨#[]⟩,.slice none 0 0,.slice none 0 0,.slice none 0 0] 32):=⟨_,rfl⟩
 obtain ⟨g4,hg4⟩: ∃q,q=W903.heap.size:=⟨_,rfl⟩
 have KX:Hid (Blk W904 g4 32 [.string ⟨#[]⟩,.slice none 0 0,.slice none 0 0,.slice none 0 0]):=hide (by rw[hW904,hg4];exact Blk.made _ _ _)
 have SZg4:Hid (W904.heap.size=g4+1):=hide (by rw[hW904,hg4];exact World.size_alloc _ _)
 have LBg4:Hid (Below W903.heap.size W903 W904):=hide (by rw[hW904];exact below_alloc)
 have HGg4:Hid (w.heap.size<=g4):=hide (by rw[hg4];exact LHBg3.out.size)
 have NEg1_g4:Hid (¬g1=g4):=hide (by have h:=KC.out.lt;omega)
 have NEg2_g4:Hid (¬g2=g4):=hide (by have h:=KR.out.lt;omega)
 have NEg3_g4:Hid (¬g3=g4):=hide (by have h:=KO.out.lt;omega)
 have hqg4:g4=g3+1:=by rw[hg4];exact SZg3.out
 rw[<-hW904,<-hqg4]
 clear hqg4
 have HEg4:=hide hg4
 clear hW904 hg4
 have KC:=hide (KC.out.below LBg4.out)
 have KR:=hide (KR.out.below LBg4.out)
 have KO:=hide (KO.out.below LBg4.out)
 have LHBg4:=hide (below_trans LHBg3.out LBg4.out)
 obtain ⟨W905,hW905⟩: ∃W,W=W904.alloc (.cells #[.string ⟨#[]⟩,.slice none 0 0,.slice none 0 0,.slice none 0 0] 32):=⟨_,rfl⟩
 obtain ⟨g5,hg5⟩: ∃q,q=W904.heap.size:=⟨_,rfl⟩
 have KY:Hid (Blk W905 g5 32 [.string ⟨#[]⟩,.slice none 0 0,.slice none 0 0,.slice none 0 0]):=hide (by rw[hW905,hg5];exact Blk.made _ _ _)
 have SZg5:Hid (W905.heap.size=g5+1):=hide (by rw[hW905,hg5];exact World.size_alloc _ _)
 have LBg5:Hid (Below W904.heap.size W904 W905):=hide (by rw[hW905];exact below_alloc)
 have HGg5:Hid (w.heap.size<=g5):=hide (by rw[hg5];exact LHBg4.out.size)
 have NEg1_g5:Hid (¬g1=g5):=hide (by have h:=KC.out.lt;omega)
 have NEg2_g5:Hid (¬g2=g5):=hide (by have h:=KR.out.lt;omega)
 have NEg3_g5:Hid (¬g3=g5):=hide (by have h:=KO.out.lt;omega)
 have NEg4_g5:Hid (¬g4=g5):=hide (by have h:=KX.out.lt;omega)
 have hqg5:g5=g4+1:=by rw[hg5];exact SZg4.out
 rw[<-hW905,<-hqg5]
 clear hqg5
 have HEg5:=hide hg5
 clear hW905 hg5
 have KC:=hide (KC.out.below LBg5.out)
 have KR:=hide (KR.out.below LBg5.out)
 have KO:=hide (KO.out.below LBg5.out)
 have KX:=hide (KX.out.below LBg5.out)
 have LHBg5:=hide (below_trans LHBg4.out LBg5.out)
 obtain ⟨W906,hW906⟩: ∃W,W=W905.alloc (.cells #[.slice A n c,.int .i64 0] 51):=⟨_,rfl⟩
 obtain ⟨g6,hg6⟩: ∃q,q=W905.heap.size:=⟨_,rfl⟩
 have KN:Hid (Blk W906 g6 51 [.slice A n c,.int .i64 0]):=hide (by rw[hW906,hg6];exact Blk.made _ _ _)
 have SZg6:Hid (W906.heap.size=g6+1):=hide (by rw[hW906,hg6];exact World.size_alloc _ _)
 have LBg6:Hid (Below W905.heap.size W905 W906):=hide (by rw[hW906];exact below_alloc)
 have HGg6:Hid (w.heap.size<=g6):=hide (by rw[hg6];exact LHBg5.out.size)
 have NEg1_g6:Hid (¬g1=g6):=hide (by have h:=KC.out.lt;omega)
 have NEg2_g6:Hid (¬g2=g6):=hide (by have h:=KR.out.lt;omega)
 have NEg3_g6:Hid (¬g3=g6):=hide (by have h:=KO.out.lt;omega)
 have NEg4_g6:Hid (¬g4=g6):=hide (by have h:=KX.out.lt;omega)
 have NEg5_g6:Hid (¬g5=g6):=hide (by have h:=KY.out.lt;omega)
 have hqg6:g6=g5+1:=by rw[hg6];exact SZg5.out
 rw[<-hW906,<-hqg6]
 clear hqg6
 have HEg6:=hide hg6
 clear hW906 hg6
 have KC:=hide (KC.out.below LBg6.out)
 have KR:=hide (KR.out.below LBg6.out)
 have KO:=hide (KO.out.below LBg6.out)
 have KX:=hide (KX.out.below LBg6.out)
 have KY:=hide (KY.out.below LBg6.out)
 have LHBg6:=hide (below_trans LHBg5.out LBg6.out)
 obtain ⟨K,hK⟩: ∃K,kind % 7=K:=⟨_,rfl⟩
 rw[hK]at hk0 hk1
 have HK:=hide hK
 clear hK
 go_cut [] (λwx=>Blk wx g1 27 [.string ⟨#[99]⟩,.string ⟨#[]⟩,.int .i64 K,.slice none 0 0,.string ⟨#[]⟩,.slice none 0 0,.int .i64 0,.int .i64 0,.slice none 0 0,.int .i64 0,.int .i64 0,.int .i64 0,.int .i64 0,.int .i64 1]/\Oth29 w g2 g3 g4 g5 g6 A n c wx)
 case first=>
  go_wp2_with fail
  refine (placeW_any kind 7 (by omega) (by omega) _).mono ?_
  rintro e w1 ⟨rfl,hw1⟩
  obtain rfl:=hw1.symm
  clear hw1
  rw[HK.out]
  obtain ⟨LTKC,k0,k1,k2,k3,k4,k5,k6,k7,k8,k9,k10,k11,k12,k13⟩:=KC.out.ats14
  have fk0:=KC.out.fz 0
  have fk1:=KC.out.fz 1
  have fk2:=KC.out.fz 2
  have fk3:=KC.out.fz 3
  have fk4:=KC.out.fz 4
  have fk5:=KC.out.fz 5
  have fk6:=KC.out.fz 6
  have fk7:=KC.out.fz 7
  have fk8:=KC.out.fz 8
  have fk9:=KC.out.fz 9
  have fk10:=KC.out.fz 10
  have fk11:=KC.out.fz 11
  have fk12:=KC.out.fz 12
  have fk13:=KC.out.fz 13
  go_wp2_with fail
  obtain ⟨W907,hW907⟩: ∃W,W=((((((((((((((W906.setCell ⟨g1,0,none⟩ (.string ⟨#[99]⟩)).setCell ⟨g1,1,none⟩ (.string ⟨#[]⟩)).setCell ⟨g1,2,none⟩ (.int .i64 K)).setCell ⟨g1,3,none⟩ (.slice none 0 0)).setCell ⟨g1,4,none⟩ (.string ⟨#[]⟩)).setCell ⟨g1,5,none⟩ (.slice none 0 0)).setCell ⟨g1,6,none⟩ (.int .i64 0)).setCell ⟨g1,7,none⟩ (.int .i64 0)).setCell ⟨g1,8,none⟩ (.slice none 0 0)).setCell ⟨g1,9,none⟩ (.int .i64 0)).setCell ⟨g1,10,none⟩ (.int .i64 0)).setCell ⟨g1,11,none⟩ (.int .i64 0)).setCell ⟨g1,12,none⟩ (.int .i64 0)).setCell ⟨g1,13,none⟩ (.int .i64 1)):=⟨_,rfl⟩
  clear LTKC k0 k1 k2 k3 k4 k5 k6 k7 k8 k9 k10 k11 k12 k13 fk0 fk1 fk2 fk3 fk4 fk5 fk6 fk7 fk8 fk9 fk10 fk11 fk12 fk13
  have KR:=hide ((((((((((((((KR.out.far (λh=>NEg1_g2.out h.symm) 0 (.string ⟨#[99]⟩)).far (λh=>NEg1_g2.out h.symm) 1 (.string ⟨#[]⟩)).far (λh=>NEg1_g2.out h.symm) 2 (.int .i64 K)).far (λh=>NEg1_g2.out h.symm) 3 (.slice none 0 0)).far (λh=>NEg1_g2.out h.symm) 4 (.string ⟨#[]⟩)).far (λh=>NEg1_g2.out h.symm) 5 (.slice none 0 0)).far (λh=>NEg1_g2.out h.symm) 6 (.int .i64 0)).far (λh=>NEg1_g2.out h.symm) 7 (.int .i64 0)).far (λh=>NEg1_g2.out h.symm) 8 (.slice none 0 0)).far (λh=>NEg1_g2.out h.symm) 9 (.int .i64 0)).far (λh=>NEg1_g2.out h.symm) 10 (.int .i64 0)).far (λh=>NEg1_g2.out h.symm) 11 (.int .i64 0)).far (λh=>NEg1_g2.out h.symm) 12 (.int .i64 0)).far (λh=>NEg1_g2.out h.symm) 13 (.int .i64 1))
  rw[<-hW907]at KR
  have KO:=hide ((((((((((((((KO.out.far (λh=>NEg1_g3.out h.symm) 0 (.string ⟨#[99]⟩)).far (λh=>NEg1_g3.out h.symm) 1 (.string ⟨#[]⟩)).far (λh=>NEg1_g3.out h.symm) 2 (.int .i64 K)).far (λh=>NEg1_g3.out h.symm) 3 (.slice none 0 0)).far (λh=>NEg1_g3.out h.symm) 4 (.string ⟨#[]⟩)).far (λh=>NEg1_g3.out h.symm) 5 (.slice none 0 0)).far (λh=>NEg1_g3.out h.symm) 6 (.int .i64 0)).far (λh=>NEg1_g3.out h.symm) 7 (.int .i64 0)).far (λh=>NEg1_g3.out h.symm) 8 (.slice none 0 0)).far (λh=>NEg1_g3.out h.symm) 9 (.int .i64 0)).far (λh=>NEg1_g3.out h.symm) 10 (.int .i64 0)).far (λh=>NEg1_g3.out h.symm) 11 (.int .i64 0)).far (λh=>NEg1_g3.out h.symm) 12 (.int .i64 0)).far (λh=>NEg1_g3.out h.symm) 13 (.int .i64 1))
  rw[<-hW907]at KO
  have KX:=hide ((((((((((((((KX.out.far (λh=>NEg1_g4.out h.symm) 0 (.string ⟨#[99]⟩)).far (λh=>NEg1_g4.out h.symm) 1 (.string ⟨#[]⟩)).far (λh=>NEg1_g4.out h.symm) 2 (.int .i64 K)).far (λh=>NEg1_g4.out h.symm) 3 (.slice none 0 0)).far (λh=>NEg1_g4.out h.symm) 4 (.string ⟨#[]⟩)).far (λh=>NEg1_g4.out h.symm) 5 (.slice none 0 0)).far (λh=>NEg1_g4.out h.symm) 6 (.int .i64 0)).far (λh=>NEg1_g4.out h.symm) 7 (.int .i64 0)).far (λh=>NEg1_g4.out h.symm) 8 (.slice none 0 0)).far (λh=>NEg1_g4.out h.symm) 9 (.int .i64 0)).far (λh=>NEg1_g4.out h.symm) 10 (.int .i64 0)).far (λh=>NEg1_g4.out h.symm) 11 (.int .i64 0)).far (λh=>NEg1_g4.out h.symm) 12 (.int .i64 0)).far (λh=>NEg1_g4.out h.symm) 13 (.int .i64 1))
  rw[<-hW907]at KX
  have KY:=hide ((((((((((((((KY.out.far (λh=>NEg1_g5.out h.symm) 0 (.string ⟨#[99]⟩)).far (λh=>NEg1_g5.out h.symm) 1 (.string ⟨#[]⟩)).far (λh=>NEg1_g5.out h.symm) 2 (.int .i64 K)).far (λh=>NEg1_g5.out h.symm) 3 (.slice none 0 0)).far (λh=>NEg1_g5.out h.symm) 4 (.string ⟨#[]⟩)).far (λh=>NEg1_g5.out h.symm) 5 (.slice none 0 0)).far (λh=>NEg1_g5.out h.symm) 6 (.int .i64 0)).far (λh=>NEg1_g5.out h.symm) 7 (.int .i64 0)).far (λh=>NEg1_g5.out h.symm) 8 (.slice none 0 0)).far (λh=>NEg1_g5.out h.symm) 9 (.int .i64 0)).far (λh=>NEg1_g5.out h.symm) 10 (.int .i64 0)).far (λh=>NEg1_g5.out h.symm) 11 (.int .i64 0)).far (λh=>NEg1_g5.out h.symm) 12 (.int .i64 0)).far (λh=>NEg1_g5.out h.symm) 13 (.int .i64 1))
  rw[<-hW907]at KY
  have KN:=hide ((((((((((((((KN.out.far (λh=>NEg1_g6.out h.symm) 0 (.string ⟨#[99]⟩)).far (λh=>NEg1_g6.out h.symm) 1 (.string ⟨#[]⟩)).far (λh=>NEg1_g6.out h.symm) 2 (.int .i64 K)).far (λh=>NEg1_g6.out h.symm) 3 (.slice none 0 0)).far (λh=>NEg1_g6.out h.symm) 4 (.string ⟨#[]⟩)).far (λh=>NEg1_g6.out h.symm) 5 (.slice none 0 0)).far (λh=>NEg1_g6.out h.symm) 6 (.int .i64 0)).far (λh=>NEg1_g6.out h.symm) 7 (.int .i64 0)).far (λh=>NEg1_g6.out h.symm) 8 (.slice none 0 0)).far (λh=>NEg1_g6.out h.symm) 9 (.int .i64 0)).far (λh=>NEg1_g6.out h.symm) 10 (.int .i64 0)).far (λh=>NEg1_g6.out h.symm) 11 (.int .i64 0)).far (λh=>NEg1_g6.out h.symm) 12 (.int .i64 0)).far (λh=>NEg1_g6.out h.symm) 13 (.int .i64 1))
  rw[<-hW907]at KN
  have KC:=hide (KC.out.set14 rfl (a0:=.string ⟨#[99]⟩) (a1:=.string ⟨#[]⟩) (a2:=.int .i64 K) (a3:=.slice none 0 0) (a4:=.string ⟨#[]⟩) (a5:=.slice none 0 0) (a6:=.int .i64 0) (a7:=.int .i64 0) (a8:=.slice none 0 0) (a9:=.int .i64 0) (a10:=.int .i64 0) (a11:=.int .i64 0) (a12:=.int .i64 0) (a13:=.int .i64 1))
  rw[<-hW907]at KC
  have LHS7:=hide (below_set (below_set (below_set (below_set (below_set (below_set (below_set (below_set (below_set (below_set (below_set (below_set (below_set (below_set LHBg6.out HGg1.out 0 (.string ⟨#[99]⟩)) HGg1.out 1 (.string ⟨#[]⟩)) HGg1.out 2 (.int .i64 K)) HGg1.out 3 (.slice none 0 0)) HGg1.out 4 (.string ⟨#[]⟩)) HGg1.out 5 (.slice none 0 0)) HGg1.out 6 (.int .i64 0)) HGg1.out 7 (.int .i64 0)) HGg1.out 8 (.slice none 0 0)) HGg1.out 9 (.int .i64 0)) HGg1.out 10 (.int .i64 0)) HGg1.out 11 (.int .i64 0)) HGg1.out 12 (.int .i64 0)) HGg1.out 13 (.int .i64 1))
  rw[<-hW907]at LHS7
  rw[<-hW907]
  clear hW907
  go_meet
  case rel=>exact ⟨KC.out,KR.out,KO.out,KX.out,KY.out,KN.out,LHS7.out⟩
 case rest=>
  obtain ⟨hkc,hkr,hko,hkx,hky,hkn,hbx⟩:=hcut
  have HO:=hide (show Oth29 w g2 g3 g4 g5 g6 A n c wc from ⟨hkr,hko,hkx,hky,hkn,hbx⟩)
  have HNE:=hide (show ¬g1=g2/\¬g1=g3/\¬g1=g4/\¬g1=g5/\¬g1=g6 from ⟨NEg1_g2.out,NEg1_g3.out,NEg1_g4.out,NEg1_g5.out,NEg1_g6.out⟩)
  have KC:=hide hkc
  have KR:=hide hkr
  have KO:=hide hko
  have KX:=hide hkx
  have KY:=hide hky
  have KN:=hide hkn
  clear hkc hkr hko hkx hky hkn
  have LHT8:=hide hbx
  clear hbx
  have HG16:=hide (show ¬g6=g1/\¬g6=g2/\¬g6=g3/\¬g6=g4/\¬g6=g5 from ⟨λe=>NEg1_g6.out e.symm,λe=>NEg2_g6.out e.symm,λe=>NEg3_g6.out e.symm,λe=>NEg4_g6.out e.symm,λe=>NEg5_g6.out e.symm⟩)
  go_step
  go_step
  go_cut [] (λwx=> ∃(cc:Chk) (A':Option Addr) (n' c':Nat) (A'':Option Addr) (n'' c'':Nat) (A3:Option Addr) (n3 c3:Nat),cc∈made29/\Blk wx g1 27 (chkCells cc A' n' c' A'' n'' c'' A3 n3 c3)/\Hi (g6+1) wx A' n' c' cc.cols/\Hi (g6+1) wx A'' n'' c'' cc.ocols/\Hi (g6+1) wx A3 n3 c3 cc.cond/\Oth29 w g2 g3 g4 g5 g6 A n c wx)
  case first=>
   have HN6:=hide (show g6+1<=wc.heap.size from KN.out.lt)
   obtain ⟨LTKC,k0,k1,k2,k3,k4,k5,k6,k7,k8,k9,k10,k11,k12,k13⟩:=KC.out.ats14
   have fk0:=KC.out.fz 0
   have fk1:=KC.out.fz 1
   have fk2:=KC.out.fz 2
   have fk3:=KC.out.fz 3
   have fk4:=KC.out.fz 4
   have fk5:=KC.out.fz 5
   have fk6:=KC.out.fz 6
   have fk7:=KC.out.fz 7
   have fk8:=KC.out.fz 8
   have fk9:=KC.out.fz 9
   have fk10:=KC.out.fz 10
   have fk11:=KC.out.fz 11
   have fk12:=KC.out.fz 12
   have fk13:=KC.out.fz 13
   obtain rfl|rfl|rfl|rfl|rfl|rfl|rfl:K=0\/K=1\/K=2\/K=3\/K=4\/K=5\/K=6:=by omega
   ·go_upto_region 8 with (fail)
    go_wp2_with fail
    refine (placeW_any _ 3 (by omega) (by omega) _).mono ?_
    rintro e w1 ⟨rfl,hw1⟩
    obtain rfl:=hw1.symm
    clear hw1
    obtain ⟨V4,hV4⟩: ∃V,V=(((wc.alloc (.cells #[.string ⟨#[110,97,109,101]⟩] 9)).alloc (.cells #[.string ⟨#[105,100]⟩,.string ⟨#[118]⟩] 9)).alloc (.cells #[.string ⟨#[118]⟩] 9)).alloc (.cells #[.slice (some ⟨wc.heap.size,0,none⟩) 1 1,.slice (some ⟨wc.heap.size+1,0,none⟩) 2 2,.slice (some ⟨wc.heap.size+1+1,0,none⟩) 1 1] 22):=⟨_,rfl⟩
    have n0:Hid (In V4 (some ⟨wc.heap.size,0,none⟩) 1 1 [nName]):=hide (by rw[hV4];exact (n29_new (by decide) (by simp)).below (below_trans below_alloc2 below_alloc))
    have n1:Hid (In V4 (some ⟨wc.heap.size+1,0,none⟩) 2 2 [nId,nV]):=hide (by rw[hV4];exact (n29_new2 (by decide) (by decide) (by simp)).below below_alloc2)
    have n2:Hid (In V4 (some ⟨wc.heap.size+1+1,0,none⟩) 1 1 [nV]):=hide (by rw[hV4];exact (n29_new (by decide) (by simp)).below below_alloc)
    have c0:V4.cell? ⟨wc.heap.size+1+1+1,0,none⟩=some (.slice (some ⟨wc.heap.size,0,none⟩) 1 1):=by rw[hV4];simp[go_sem]
    have c1:V4.cell? ⟨wc.heap.size+1+1+1,1,none⟩=some (.slice (some ⟨wc.heap.size+1,0,none⟩) 2 2):=by rw[hV4];simp[go_sem]
    have c2:V4.cell? ⟨wc.heap.size+1+1+1,2,none⟩=some (.slice (some ⟨wc.heap.size+1+1,0,none⟩) 1 1):=by rw[hV4];simp[go_sem]
    have hb4:Below wc.heap.size wc V4:=by rw[hV4];exact below_trans below_alloc2 below_alloc2
    have HB4:=hide hb4
    rw[<-hV4]
    clear hV4
    have KC4:=hide (KC.out.below hb4)
    clear LTKC k0 k1 k2 k3 k4 k5 k6 k7 k8 k9 k10 k11 k12 k13 fk0 fk1 fk2 fk3 fk4 fk5 fk6 fk7 fk8 fk9 fk10 fk11 fk12 fk13
    obtain ⟨LTKC,k0,k1,k2,k3,k4,k5,k6,k7,k8,k9,k10,k11,k12,k13⟩:=KC4.out.ats14
    have fk3:=KC4.out.fz 3
    clear hb4
    obtain hp|hp|hp:kind.tdiv 7 % 3=0\/kind.tdiv 7 % 3=1\/kind.tdiv 7 % 3=2:=by omega
    ·rw[hp]
     clear hp
     go_wp2_with fail
     go_meet
     case rel=>exact ⟨chk29 0 [nName] ⟨#[]⟩ [] 0 [] 0 0 0 0,_,1,1,none,0,0,none,0,0,by simp[made29,kc29],KC4.out.set 3 _,hi29 (n29_set n0.out (by have:=KC.out.lt;omega) _ _) (by have:=HN6.out;omega),hi_nil,hi_nil,HO.out.grown ((Below.grows HB4.out _).trans grown_set) HGg1.out HNE.out⟩
    ·rw[hp]
     clear hp
     go_wp2_with fail
     go_meet
     case rel=>exact ⟨chk29 0 [nId,nV] ⟨#[]⟩ [] 0 [] 0 0 0 0,_,2,2,none,0,0,none,0,0,by simp[made29,kc29],KC4.out.set 3 _,hi29 (n29_set n1.out (by have:=KC.out.lt;omega) _ _) (by have:=HN6.out;omega),hi_nil,hi_nil,HO.out.grown ((Below.grows HB4.out _).trans grown_set) HGg1.out HNE.out⟩
    ·rw[hp]
     clear hp
     go_wp2_with fail
     go_meet
     case rel=>exact ⟨chk29 0 [nV] ⟨#[]⟩ [] 0 [] 0 0 0 0,_,1,1,none,0,0,none,0,0,by simp[made29,kc29],KC4.out.set 3 _,hi29 (n29_set n2.out (by have:=KC.out.lt;omega) _ _) (by have:=HN6.out;omega),hi_nil,hi_nil,HO.out.grown ((Below.grows HB4.out _).trans grown_set) HGg1.out HNE.out⟩
   ·go_upto_region 8 with (fail)
    go_wp2_with fail
    refine (placeW_any _ 3 (by omega) (by omega) _).mono ?_
    rintro e w1 ⟨rfl,hw1⟩
    obtain rfl:=hw1.symm
    clear hw1
    obtain ⟨V4,hV4⟩: ∃V,V=(((wc.alloc (.cells #[.string ⟨#[110,97,109,101]⟩] 9)).alloc (.cells #[.string ⟨#[105,100]⟩,.string ⟨#[118]⟩] 9)).alloc (.cells #[.string ⟨#[118]⟩] 9)).alloc (.cells #[.slice (some ⟨wc.heap.size,0,none⟩) 1 1,.slice (some ⟨wc.heap.size+1,0,none⟩) 2 2,.slice (some ⟨wc.heap.size+1+1,0,none⟩) 1 1] 22):=⟨_,rfl⟩
    have n0:Hid (In V4 (some ⟨wc.heap.size,0,none⟩) 1 1 [nName]):=hide (by rw[hV4];exact (n29_new (by decide) (by simp)).below (below_trans below_alloc2 below_alloc))
    have n1:Hid (In V4 (some ⟨wc.heap.size+1,0,none⟩) 2 2 [nId,nV]):=hide (by rw[hV4];exact (n29_new2 (by decide) (by decide) (by simp)).below below_alloc2)
    have n2:Hid (In V4 (some ⟨wc.heap.size+1+1,0,none⟩) 1 1 [nV]):=hide (by rw[hV4];exact (n29_new (by decide) (by simp)).below below_alloc)
    have c0:V4.cell? ⟨wc.heap.size+1+1+1,0,none⟩=some (.slice (some ⟨wc.heap.size,0,none⟩) 1 1):=by rw[hV4];simp[go_sem]
    have c1:V4.cell? ⟨wc.heap.size+1+1+1,1,none⟩=some (.slice (some ⟨wc.heap.size+1,0,none⟩) 2 2):=by rw[hV4];simp[go_sem]
    have c2:V4.cell? ⟨wc.heap.size+1+1+1,2,none⟩=some (.slice (some ⟨wc.heap.size+1+1,0,none⟩) 1 1):=by rw[hV4];simp[go_sem]
    have hb4:Below wc.heap.size wc V4:=by rw[hV4];exact below_trans below_alloc2 below_alloc2
    have HB4:=hide hb4
    rw[<-hV4]
    clear hV4
    have KC4:=hide (KC.out.below hb4)
    clear LTKC k0 k1 k2 k3 k4 k5 k6 k7 k8 k9 k10 k11 k12 k13 fk0 fk1 fk2 fk3 fk4 fk5 fk6 fk7 fk8 fk9 fk10 fk11 fk12 fk13
    obtain ⟨LTKC,k0,k1,k2,k3,k4,k5,k6,k7,k8,k9,k10,k11,k12,k13⟩:=KC4.out.ats14
    have fk3:=KC4.out.fz 3
    clear hb4
    obtain hp|hp|hp:kind.tdiv 7 % 3=0\/kind.tdiv 7 % 3=1\/kind.tdiv 7 % 3=2:=by omega
    ·rw[hp]
     clear hp
     go_wp2_with fail
     go_meet
     case rel=>exact ⟨chk29 1 [nName] ⟨#[]⟩ [] 0 [] 0 0 0 0,_,1,1,none,0,0,none,0,0,by simp[made29,kc29],KC4.out.set 3 _,hi29 (n29_set n0.out (by have:=KC.out.lt;omega) _ _) (by have:=HN6.out;omega),hi_nil,hi_nil,HO.out.grown ((Below.grows HB4.out _).trans grown_set) HGg1.out HNE.out⟩
    ·rw[hp]
     clear hp
     go_wp2_with fail
     go_meet
     case rel=>exact ⟨chk29 1 [nId,nV] ⟨#[]⟩ [] 0 [] 0 0 0 0,_,2,2,none,0,0,none,0,0,by simp[made29,kc29],KC4.out.set 3 _,hi29 (n29_set n1.out (by have:=KC.out.lt;omega) _ _) (by have:=HN6.out;omega),hi_nil,hi_nil,HO.out.grown ((Below.grows HB4.out _).trans grown_set) HGg1.out HNE.out⟩
    ·rw[hp]
     clear hp
     go_wp2_with fail
     go_meet
     case rel=>exact ⟨chk29 1 [nV] ⟨#[]⟩ [] 0 [] 0 0 0 0,_,1,1,none,0,0,none,0,0,by simp[made29,kc29],KC4.out.set 3 _,hi29 (n29_set n2.out (by have:=KC.out.lt;omega) _ _) (by have:=HN6.out;omega),hi_nil,hi_nil,HO.out.grown ((Below.grows HB4.out _).trans grown_set) HGg1.out HNE.out⟩
   ·go_wp2_with fail
    go_meet
    case rel=>exact ⟨chk29 2 [nV] ⟨#[]⟩ [] 3 [] 0 0 0 0,_,1,1,none,0,0,none,0,0,by simp[made29],(((KC.out.set 3 _).set 6 _).set 7 _).below below_alloc,hi29 (n29_new (by decide) (by simp)) HN6.out,hi_nil,hi_nil,HO.out.grown (((grown_set.trans grown_set).trans grown_set).trans (Below.grows below_alloc _)) HGg1.out HNE.out⟩
   ·go_upto_region 12 with (fail)
    obtain ⟨p,hp,hp3⟩: ∃p:Nat,kind.tdiv 7 % 3=(p:Int)/\p<3:=⟨(kind.tdiv 7 % 3).toNat,by omega,by omega⟩
    have HP:=hide hp
    clear hp
    have HSZ:=hide (Nat.le_refl wc.heap.size)
    obtain ⟨B0,hB0⟩: ∃q,q=wc.heap.size:=⟨_,rfl⟩
    have HB0:=hide hB0
    clear hB0
    go_cut [] (λwx=> ∃(b m:Nat),Blk wx g1 27 [.string ⟨#[99]⟩,.string ⟨#[]⟩,.int .i64 3,.slice (some ⟨b,0,none⟩) m m,.string ⟨#[]⟩,.slice none 0 0,.int .i64 0,.int .i64 0,.slice none 0 0,.int .i64 0,.int .i64 0,.int .i64 0,.int .i64 0,.int .i64 1]/\(rc29 p).length=m/\In wx (some ⟨b,0,none⟩) m m (rc29 p)/\B0<=b/\B0<=wx.heap.size/\Oth29 w g2 g3 g4 g5 g6 A n c wx)
    case first=>
     go_wp2_with fail
     refine (placeW_any _ 3 (by omega) (by omega) _).mono ?_
     rintro e w1 ⟨rfl,hw1⟩
     obtain rfl:=hw1.symm
     clear hw1
     obtain ⟨V4,hV4⟩: ∃V,V=(((wc.alloc (.cells #[.string ⟨#[110,97,109,101]⟩] 9)).alloc (.cells #[.string ⟨#[118]⟩] 9)).alloc (.cells #[.string ⟨#[110,97,109,101]⟩,.string ⟨#[105,100]⟩] 9)).alloc (.cells #[.slice (some ⟨wc.heap.size,0,none⟩) 1 1,.slice (some ⟨wc.heap.size+1,0,none⟩) 1 1,.slice (some ⟨wc.heap.size+1+1,0,none⟩) 2 2] 22):=⟨_,rfl⟩
     have n0:Hid (In V4 (some ⟨wc.heap.size,0,none⟩) 1 1 [nName]):=hide (by rw[hV4];exact (n29_new (by decide) (by simp)).below (below_trans below_alloc2 below_alloc))
     have n1:Hid (In V4 (some ⟨wc.heap.size+1,0,none⟩) 1 1 [nV]):=hide (by rw[hV4];exact (n29_new (by decide) (by simp)).below below_alloc2)
     have n2:Hid (In V4 (some ⟨wc.heap.size+1+1,0,none⟩) 2 2 [nName,nId]):=hide (by rw[hV4];exact (n29_new2 (by decide) (by decide) (by simp)).below below_alloc)
     have c0:V4.cell? ⟨wc.heap.size+1+1+1,0,none⟩=some (.slice (some ⟨wc.heap.size,0,none⟩) 1 1):=by rw[hV4];simp[go_sem]
     have c1:V4.cell? ⟨wc.heap.size+1+1+1,1,none⟩=some (.slice (some ⟨wc.heap.size+1,0,none⟩) 1 1):=by rw[hV4];simp[go_sem]
     have c2:V4.cell? ⟨wc.heap.size+1+1+1,2,none⟩=some (.slice (some ⟨wc.heap.size+1+1,0,none⟩) 2 2):=by rw[hV4];simp[go_sem]
     have hb4:Below wc.heap.size wc V4:=by rw[hV4];exact below_trans below_alloc2 below_alloc2
     have HB4:=hide hb4
     rw[<-hV4]
     clear hV4
     have KC4:=hide (KC.out.below hb4)
     clear LTKC k0 k1 k2 k3 k4 k5 k6 k7 k8 k9 k10 k11 k12 k13 fk0 fk1 fk2 fk3 fk4 fk5 fk6 fk7 fk8 fk9 fk10 fk11 fk12 fk13
     obtain ⟨LTKC,k0,k1,k2,k3,k4,k5,k6,k7,k8,k9,k10,k11,k12,k13⟩:=KC4.out.ats14
     have fk3:=KC4.out.fz 3
     clear hb4
     obtain ⟨b,m,cX,nX,hbX,hmX⟩: ∃(b m:Nat),V4.cell? ⟨wc.heap.size+1+1+1,p,none⟩=some (.slice (some ⟨b,0,none⟩) m m)/\In V4 (some ⟨b,0,none⟩) m m (rc29 p)/\wc.heap.size<=b/\(rc29 p).length=m:=by
      obtain rfl|rfl|rfl:p=0\/p=1\/p=2:=by omega
      ·exact ⟨_,_,c0,n0.out,by omega,rfl⟩
      ·exact ⟨_,_,c1,n1.out,by omega,rfl⟩
      ·exact ⟨_,_,c2,n2.out,by omega,rfl⟩
     have NX:=hide nX
     have HMX:=hide hmX
     clear nX c0 c1 c2 hmX
     have j0:(0:Int)<=(p:Int):=by omega
     have j1:(p:Int)<3:=by omega
     rw[HP.out]
     go_wp2_with fail
     go_meet
     case rel=>exact ⟨b,m,KC4.out.set 3 _,HMX.out,n29_set NX.out (by have:=KC.out.lt;omega) _ _,by rw[HB0.out];exact hbX,by rw[HB0.out];simpa using HB4.out.size,HO.out.grown ((Below.grows HB4.out _).trans grown_set) HGg1.out HNE.out⟩
    case rest=>
     have HN60:Hid (g6+1<=B0):=hide (by rw[HB0.out];exact HN6.out)
     have HLT0:Hid (g1<B0):=hide (by rw[HB0.out];exact KC.out.lt)
     obtain ⟨b,m,hkc2,hm2,hx2,hb2,hs2,ho2⟩:=hcut
     have KC2:=hide hkc2
     have HM2:=hide hm2
     have HX2:=hide (Nm.mk hx2 hb2 hm2)
     have HS2:=hide hs2
     have HO2:=hide ho2
     have HLT:=HLT0
     clear hkc2 hm2 hx2 hb2 hs2 ho2
     go_upto_region 13 with (fail)
     have HDV:=hide (λ(V V1:World) (q:Below V.heap.size V V1) (q2:Oth29 w g2 g3 g4 g5 g6 A n c V)=>q2.below q)
     refine wp_region_deps (by kernel_rfl) deps13 (by kernel_rfl) (λL a V=> ∃v58 v59 v60 v61 v62 v63 v64 v65 v66 v67 v68,a=⟨#[.slice A n c,.int .i64 kind,undef,undef,.pointer (some ⟨g1,0,none⟩),.pointer (some ⟨g2,0,none⟩),.pointer (some ⟨g3,0,none⟩),.pointer (some ⟨g4,0,none⟩),.pointer (some ⟨g5,0,none⟩),.pointer (some ⟨g6,0,none⟩),u10,u11,u12,u13,u14,u15,u16,.int .i64 3,u18,u19,u20,u21,u22,u23,u24,u25,u26,.bool false,u28,u29,u30,u31,u32,u33,u34,u35,u36,u37,u38,u39,.bool false,u41,u42,u43,u44,u45,.bool true,u47,u48,u49,u50,u51,u52,u53,u54,u55,u56,u57,v58,v59,v60,v61,v62,v63,v64,v65,v66,v67,v68,undef,u70,u71,u72,u73,u74,u75,u76,u77,u78,u79,u80,u81,u82,u83,u84,u85,u86,u87,u88,u89,u90,u91,u92,u93,u94,u95,u96,u97,u98,u99,u100,u101,u102,u103,u104],[]⟩/\Inv13 B0 kind p g1 b m (Oth29 w g2 g3 g4 g5 g6 A n c) V v58 v59 v60 v61 v62 v63 v64 v65 v66 v67 v68 (L 0) (L 1) (L 2) (L 3) (L 4) (L 5) (L 6) (L 7) (L 8) (L 9) (L 10) (L 11) (L 12)) ?_ ?_ ?_
     ·exact ⟨_,_,_,_,_,_,_,_,_,_,_,rfl,{oth:=HO2.out.below (Below.refl _ _).drew,size:=HS2.out,nm:=HX2.out,blk:=⟨⟨#[]⟩,none,0,0,KC2.out,(λq=>by cases q),(λq=>by cases q)⟩,f0:=(λq=>by cases q),f1:=(λq=>by cases q),f2:=(λq=>by cases q),f3:=(λq=>by cases q),f4:=(λq=>by cases q),f5:=(λq=>by cases q),f6:=(λq=>by cases q),f7:=(λq=>by cases q),f8:=(λq=>by cases q),f9:=(λq=>by cases q),f11:=(λq=>by cases q)}⟩
     ·intro L i a V hi hL hd hI
      obtain ⟨v58,v59,v60,v61,v62,v63,v64,v65,v66,v67,v68,rfl,hI⟩:=hI
      have hi:i<13:=hi
      have HI:=hide hI
      have HD:=hide hd
      clear hI hd hL
      obtain rfl|rfl|rfl|rfl|rfl|rfl|rfl|rfl|rfl|rfl|rfl|rfl|rfl:i=0\/i=1\/i=2\/i=3\/i=4\/i=5\/i=6\/i=7\/i=8\/i=9\/i=10\/i=11\/i=12:=by omega
      ·have hsz:=HI.out.size
       refine wpOp_step rfl (λK1 hK=>?_)
       have HK:=hide hK
       clear hK
       go_simp
       have h1:=λo=>HI.out.alloc HDV.out o
       exact HK.out _ _ ⟨_,_,_,_,_,_,_,_,_,_,_,rfl,⟨(h1 _).oth,(h1 _).size,(h1 _).nm,(h1 _).blk,λ_=>⟨_,rfl,Nm.mk (n29_new (by decide) rfl) hsz rfl⟩,(h1 _).f1,(h1 _).f2,(h1 _).f3,HI.out.f4,HI.out.f5,HI.out.f6,(h1 _).f7,(h1 _).f8,HI.out.f9,HI.out.f11⟩⟩
      ·have hsz:=HI.out.size
       refine wpOp_step rfl (λK1 hK=>?_)
       have HK:=hide hK
       clear hK
       go_simp
       have h1:=λo=>HI.out.alloc HDV.out o
       exact HK.out _ _ ⟨_,_,_,_,_,_,_,_,_,_,_,rfl,⟨(h1 _).oth,(h1 _).size,(h1 _).nm,(h1 _).blk,(h1 _).f0,λ_=>⟨_,rfl,Nm.mk (n29_new (by decide) rfl) hsz rfl⟩,(h1 _).f2,(h1 _).f3,HI.out.f4,HI.out.f5,HI.out.f6,(h1 _).f7,(h1 _).f8,HI.out.f9,HI.out.f11⟩⟩
      ·have hsz:=HI.out.size
       refine wpOp_step rfl (λK1 hK=>?_)
       have HK:=hide hK
       clear hK
       go_simp
       have h1:=λo=>HI.out.alloc HDV.out o
       exact HK.out _ _ ⟨_,_,_,_,_,_,_,_,_,_,_,rfl,⟨(h1 _).oth,(h1 _).size,(h1 _).nm,(h1 _).blk,(h1 _).f0,(h1 _).f1,λ_=>⟨_,rfl,Nm.mk (n29_new2 (by decide) (by decide) rfl) hsz rfl⟩,(h1 _).f3,HI.out.f4,HI.out.f5,HI.out.f6,(h1 _).f7,(h1 _).f8,HI.out.f9,HI.out.f11⟩⟩
      ·have hsz:=HI.out.size
       obtain ⟨d0,rfl,q0⟩:=HI.out.f0 (HD.out 0 (by simp[deps13]))
       obtain ⟨d1,rfl,q1⟩:=HI.out.f1 (HD.out 1 (by simp[deps13]))
       obtain ⟨d2,rfl,q2⟩:=HI.out.f2 (HD.out 2 (by simp[deps13]))
       have Q0:=hide q0
       have Q1:=hide q1
       have Q2:=hide q2
       clear q0 q1 q2
       refine wpOp_step rfl (λK1 hK=>?_)
       have HK:=hide hK
       clear hK
       go_simp
       have h1:=λo=>HI.out.alloc HDV.out o
       exact HK.out _ _ ⟨_,_,_,_,_,_,_,_,_,_,_,rfl,⟨(h1 _).oth,(h1 _).size,(h1 _).nm,(h1 _).blk,(h1 _).f0,(h1 _).f1,(h1 _).f2,λ_=>⟨_,d0,d1,d2,rfl,hsz,Blk.made _ _ _,Q0.out.up (Up.alloc _ _ _),Q1.out.up (Up.alloc _ _ _),Q2.out.up (Up.alloc _ _ _)⟩,HI.out.f4,HI.out.f5,HI.out.f6,(h1 _).f7,(h1 _).f8,HI.out.f9,HI.out.f11⟩⟩
      ·refine wpOp_step rfl (λK1 hK=>?_)
       have HK:=hide hK
       clear hK
       go_simp
       exact HK.out _ _ ⟨_,_,_,_,_,_,_,_,_,_,_,rfl,⟨HI.out.oth,HI.out.size,HI.out.nm,HI.out.blk,HI.out.f0,HI.out.f1,HI.out.f2,HI.out.f3,λ_=>rfl,HI.out.f5,HI.out.f6,HI.out.f7,HI.out.f8,HI.out.f9,HI.out.f11⟩⟩
      ·obtain rfl:=HI.out.f4 (HD.out 4 (by simp[deps13]))
       refine wpOp_step rfl (λK1 hK=>?_)
       have HK:=hide hK
       clear hK
       go_simp
       exact HK.out _ _ ⟨_,_,_,_,_,_,_,_,_,_,_,rfl,⟨HI.out.oth,HI.out.size,HI.out.nm,HI.out.blk,HI.out.f0,HI.out.f1,HI.out.f2,HI.out.f3,HI.out.f4,λ_=>rfl,HI.out.f6,HI.out.f7,HI.out.f8,HI.out.f9,HI.out.f11⟩⟩
      ·obtain rfl:=HI.out.f5 (HD.out 5 (by simp[deps13]))
       refine wpOp_step rfl (λK1 hK=>?_)
       have HK:=hide hK
       clear hK
       go_simp
       go_at_call 34
       refine (placeW_any _ 3 (by omega) (by omega) _).mono ?_
       rintro e w1 ⟨rfl,hw1⟩
       obtain rfl:=hw1.symm
       clear hw1
       rw[HP.out]
       go_wp2_with fail
       exact HK.out _ _ ⟨_,_,_,_,_,_,_,_,_,_,_,rfl,⟨HI.out.oth,HI.out.size,HI.out.nm,HI.out.blk,HI.out.f0,HI.out.f1,HI.out.f2,HI.out.f3,HI.out.f4,HI.out.f5,λ_=>rfl,HI.out.f7,HI.out.f8,HI.out.f9,HI.out.f11⟩⟩
      ·obtain ⟨d,d0,d1,d2,rfl,q0,q1,q2,q3,q4⟩:=HI.out.f3 (HD.out 3 (by simp[deps13]))
       obtain rfl:=HI.out.f6 (HD.out 6 (by simp[deps13]))
       have j0:(0:Int)<=(p:Int):=by omega
       have j1:(p:Int)<3:=by omega
       have Q0:=hide q0
       have Q1:=hide q1
       have Q2:=hide q2
       have Q3:=hide q3
       have Q4:=hide q4
       clear q0 q1 q2 q3 q4
       refine wpOp_step rfl (λK1 hK=>?_)
       have HK:=hide hK
       clear hK
       go_simp
       have hf: ∃e,V.cell? ⟨d,p,none⟩=some (.slice (some ⟨e,0,none⟩) (ro29 p).length (ro29 p).length)/\Nm B0 V e (ro29 p):=by
        obtain rfl|rfl|rfl:p=0\/p=1\/p=2:=by omega
        ·exact ⟨d0,Q1.out.at 0 rfl,Q2.out⟩
        ·exact ⟨d1,Q1.out.at 1 rfl,Q3.out⟩
        ·exact ⟨d2,Q1.out.at 2 rfl,Q4.out⟩
       obtain ⟨e,hf1,hf2⟩:=hf
       exact HK.out _ _ ⟨_,_,_,_,_,_,_,_,_,_,_,rfl,⟨HI.out.oth,HI.out.size,HI.out.nm,HI.out.blk,HI.out.f0,HI.out.f1,HI.out.f2,HI.out.f3,HI.out.f4,HI.out.f5,HI.out.f6,λ_=>⟨d,e,rfl,Q0.out,hf1,hf2⟩,HI.out.f8,HI.out.f9,HI.out.f11⟩⟩
      ·obtain ⟨d,e,rfl,q0,q1,q2⟩:=HI.out.f7 (HD.out 7 (by simp[deps13]))
       have Q2:=hide q2
       clear q2
       have hlt:=lt_of_cell q1
       refine wpOp_step rfl (λK1 hK=>?_)
       have HK:=hide hK
       clear hK
       go_simp
       exact HK.out _ _ ⟨_,_,_,_,_,_,_,_,_,_,_,rfl,⟨HI.out.oth,HI.out.size,HI.out.nm,HI.out.blk,HI.out.f0,HI.out.f1,HI.out.f2,HI.out.f3,HI.out.f4,HI.out.f5,HI.out.f6,HI.out.f7,λ_=>⟨e,rfl,Q2.out⟩,HI.out.f9,HI.out.f11⟩⟩
      ·refine wpOp_step rfl (λK1 hK=>?_)
       have HK:=hide hK
       clear hK
       go_simp
       exact HK.out _ _ ⟨_,_,_,_,_,_,_,_,_,_,_,rfl,⟨HI.out.oth,HI.out.size,HI.out.nm,HI.out.blk,HI.out.f0,HI.out.f1,HI.out.f2,HI.out.f3,HI.out.f4,HI.out.f5,HI.out.f6,HI.out.f7,HI.out.f8,λ_=>rfl,HI.out.f11⟩⟩
      ·obtain rfl:=HI.out.f9 (HD.out 9 (by simp[deps13]))
       obtain ⟨s,A5,n5,c5,h1,h2,h3⟩:=HI.out.blk
       have H1:=hide h1
       have H3:=hide h3
       clear h2 h3
       have x4:=h1.at 4 rfl
       have y4:=h1.fz 4
       have hlt:=h1.lt
       clear h1
       refine wpOp_step rfl (λK1 hK=>?_)
       have HK:=hide hK
       clear hK
       go_simp
       have hu:=Up.set (B:=B0) V HLT.out 4 (.string ⟨#[111]⟩)
       have hb5: ∃s A5 n5 c5,Blk (V.setCell ⟨g1,4,none⟩ (.string ⟨#[111]⟩)) g1 27 [.string ⟨#[99]⟩,.string ⟨#[]⟩,.int .i64 3,.slice (some ⟨b,0,none⟩) m m,.string s,.slice A5 n5 c5,.int .i64 0,.int .i64 0,.slice none 0 0,.int .i64 0,.int .i64 0,.int .i64 0,.int .i64 0,.int .i64 1]/\(true=true->s=⟨#[111]⟩)/\(L 12=true-> ∃d,A5=some ⟨d,0,none⟩/\n5=(ro29 p).length/\c5=(ro29 p).length/\Nm B0 (V.setCell ⟨g1,4,none⟩ (.string ⟨#[111]⟩)) d (ro29 p)):=⟨⟨#[111]⟩,A5,n5,c5,H1.out.set 4 _,λ_=>rfl,λq=>by obtain ⟨d,e1,e2,e3,h4⟩:=H3.out q;exact ⟨d,e1,e2,e3,h4.up hu⟩⟩
       have h6:=HI.out.upB hu (HI.out.oth.grown grown_set HGg1.out HNE.out) hb5
       exact HK.out _ _ ⟨_,_,_,_,_,_,_,_,_,_,_,rfl,h6⟩
      ·refine wpOp_step rfl (λK1 hK=>?_)
       have HK:=hide hK
       clear hK
       go_simp
       exact HK.out _ _ ⟨_,_,_,_,_,_,_,_,_,_,_,rfl,⟨HI.out.oth,HI.out.size,HI.out.nm,HI.out.blk,HI.out.f0,HI.out.f1,HI.out.f2,HI.out.f3,HI.out.f4,HI.out.f5,HI.out.f6,HI.out.f7,HI.out.f8,HI.out.f9,λ_=>rfl⟩⟩
      ·obtain ⟨e,rfl,q0⟩:=HI.out.f8 (HD.out 8 (by simp[deps13]))
       obtain rfl:=HI.out.f11 (HD.out 11 (by simp[deps13]))
       have q10:=(HD.out 10 (by simp[deps13]))
       obtain ⟨s,A5,n5,c5,h1,h2,h3⟩:=HI.out.blk
       have H1:=hide h1
       have H2:=hide h2
       have Q0:=hide q0
       have Q10:=hide q10
       clear h2 h3 q0 q10
       have x5:=h1.at 5 rfl
       have y5:=h1.fz 5
       have hlt:=h1.lt
       clear h1
       refine wpOp_step rfl (λK1 hK=>?_)
       have HK:=hide hK
       clear hK
       go_simp
       have hu:=Up.set (B:=B0) V HLT.out 5 (.slice (some ⟨e,0,none⟩) (ro29 p).length (ro29 p).length)
       have hb5: ∃s A5 n5 c5,Blk (V.setCell ⟨g1,5,none⟩ (.slice (some ⟨e,0,none⟩) (ro29 p).length (ro29 p).length)) g1 27 [.string ⟨#[99]⟩,.string ⟨#[]⟩,.int .i64 3,.slice (some ⟨b,0,none⟩) m m,.string s,.slice A5 n5 c5,.int .i64 0,.int .i64 0,.slice none 0 0,.int .i64 0,.int .i64 0,.int .i64 0,.int .i64 0,.int .i64 1]/\(L 10=true->s=⟨#[111]⟩)/\(true=true-> ∃d,A5=some ⟨d,0,none⟩/\n5=(ro29 p).length/\c5=(ro29 p).length/\Nm B0 (V.setCell ⟨g1,5,none⟩ (.slice (some ⟨e,0,none⟩) (ro29 p).length (ro29 p).length)) d (ro29 p)):=⟨s,_,_,_,H1.out.set 5 _,H2.out,λ_=>⟨e,rfl,rfl,rfl,Q0.out.up hu⟩⟩
       have h6:=HI.out.upB hu (HI.out.oth.grown grown_set HGg1.out HNE.out) hb5
       exact HK.out _ _ ⟨_,_,_,_,_,_,_,_,_,_,_,rfl,h6⟩
     ·intro L a V hL hI
      obtain ⟨v58,v59,v60,v61,v62,v63,v64,v65,v66,v67,v68,rfl,hI⟩:=hI
      obtain ⟨s,A5,n5,c5,h1,h2,h3⟩:=hI.blk
      obtain rfl:=h2 (hL 10 (by show 10<13;omega))
      obtain ⟨d,rfl,rfl,rfl,h4⟩:=h3 (hL 12 (by show 12<13;omega))
      have H1:=hide h1
      have H4:=hide h4
      have HN:=hide hI.nm
      have HOV:=hide hI.oth
      clear h1 h2 h3 h4 hL hI
      go_wp2_with fail
      go_meet
      case rel=>exact ⟨chk29 3 (rc29 p) ⟨#[111]⟩ (ro29 p) 0 [] 0 0 0 0,_,m,m,_,(ro29 p).length,(ro29 p).length,none,0,0,ro29_mem hp3,H1.out,hi29 (HM2.out▸HN.out.2.inn) (by have:=HN.out.1;have:=HN60.out;omega),hi29 H4.out.2.inn (by have:=H4.out.1;have:=HN60.out;omega),hi_nil,HOV.out⟩
   ·go_wp2_with fail
    go_meet
    case rel=>exact ⟨chk29 4 [] ⟨#[]⟩ [] 0 l29 1 3 2 3,none,0,0,none,0,0,_,3,3,by simp[made29],(((((KC.out.set 8 _).set 9 _).set 10 _).set 11 _).set 12 _).below below_alloc,hi_nil,hi_nil,hi29n (l29_new (by simp)) HN6.out,HO.out.grown (((((grown_set.trans grown_set).trans grown_set).trans grown_set).trans grown_set).trans (Below.grows below_alloc _)) HGg1.out HNE.out⟩
   ·go_wp2_with fail
    go_meet
    case rel=>exact ⟨chk29 5 [] ⟨#[]⟩ [] 0 l29 1 3 2 3,none,0,0,none,0,0,_,3,3,by simp[made29],(((((KC.out.set 8 _).set 9 _).set 10 _).set 11 _).set 12 _).below below_alloc,hi_nil,hi_nil,hi29n (l29_new (by simp)) HN6.out,HO.out.grown (((((grown_set.trans grown_set).trans grown_set).trans grown_set).trans grown_set).trans (Below.grows below_alloc _)) HGg1.out HNE.out⟩
   ·go_wp2_with fail
    go_meet
    case rel=>exact ⟨chk29 6 [nV] ⟨#[111]⟩ [nId] 0 [] 0 0 0 0,_,1,1,_,1,1,none,0,0,by simp[made29],(((KC.out.set 3 _).set 4 _).set 5 _).below below_alloc2,hi29 ((n29_new (by decide) (by simp)).below below_alloc) HN6.out,hi29 (n29_new (by decide) (by simp)) (by have:=HN6.out;omega),hi_nil,HO.out.grown (((grown_set.trans grown_set).trans grown_set).trans (Below.grows below_alloc2 _)) HGg1.out HNE.out⟩
  case rest=>
   obtain ⟨cc,A',n',c',A'',n'',c'',A3,n3,c3,hcm,hkc,hi1,hi2,hi3,ho⟩:=hcut
   obtain ⟨hkr,hko,hkx,hky,hkn,hbx⟩:=ho
   have HO6:Hid (Ord6 w g1 g2 g3 g4 g5 g6):=hide (by unfold Ord6;have:=HGg1.out;have:=SZg1.out;have:=HEg2.out;have:=SZg2.out;have:=HEg3.out;have:=SZg3.out;have:=HEg4.out;have:=SZg4.out;have:=HEg5.out;have:=SZg5.out;have:=HEg6.out;omega)
   have HCM:=hide hcm
   have HF:Hid (St (g6+1) (λV=>Hi (g6+1) V A' n' c' cc.cols/\Hi (g6+1) V A'' n'' c'' cc.ocols/\Hi (g6+1) V A3 n3 c3 cc.cond)):=hide (λV V1 hu q=>⟨q.1.up hu,q.2.1.up hu,q.2.2.up hu⟩)
   have HG:Hid (G29 w g1 g2 g3 g4 g5 g6 A n c (chkCells cc A' n' c' A'' n'' c'' A3 n3 c3) [.string ⟨#[]⟩,.slice none 0 0,.slice none 0 0,.slice none 0 0] [.string ⟨#[]⟩,.slice none 0 0,.slice none 0 0,.slice none 0 0] [.string ⟨#[]⟩,.slice none 0 0,.slice none 0 0,.slice none 0 0] [.string ⟨#[]⟩,.slice none 0 0,.slice none 0 0,.slice none 0 0] (λV=>Hi (g6+1) V A' n' c' cc.cols/\Hi (g6+1) V A'' n'' c'' cc.ocols/\Hi (g6+1) V A3 n3 c3 cc.cond) wc):=hide ⟨hkc,hkr,hko,hkx,hky,⟨0,Nat.zero_le _,hkn⟩,hbx,hi1,hi2,hi3⟩
   clear hcm hkc hi1 hi2 hi3 hkr hko hkx hky hkn hbx
   go_step
   go_step
   go_cut [] (λwx=> ∃(A1:Option Addr) (A5:Option Addr) (n5 c5:Nat) (rows:List Ent),G29 w g1 g2 g3 g4 g5 g6 A n c (chkCells cc A' n' c' A'' n'' c'' A3 n3 c3) [.string ⟨#[114]⟩,.slice A1 3 3,.slice none 0 0,.slice A5 n5 c5] [.string ⟨#[]⟩,.slice none 0 0,.slice none 0 0,.slice none 0 0] [.string ⟨#[]⟩,.slice none 0 0,.slice none 0 0,.slice none 0 0] [.string ⟨#[]⟩,.slice none 0 0,.slice none 0 0,.slice none 0 0] (λV=>(Hi (g6+1) V A' n' c' cc.cols/\Hi (g6+1) V A'' n'' c'' cc.ocols/\Hi (g6+1) V A3 n3 c3 cc.cond)/\Hi (g6+1) V A1 3 3 c29/\Hi (g6+1) V A5 n5 c5 rows) wx/\TabOf c29 rows)
   case first=>
    go_wp2_with fail
    refine (columns29_any _).mono ?_
    rintro e w1 ⟨⟨rfl,hc1⟩,hb1⟩
    have HG1:=hide (HG.out.bel HF.out hb1)
    have hh1:=hi29c (B:=g6+1) hc1 (by obtain ⟨_,_,h⟩:=HG.out.num;have:=h.lt;omega)
    have HH1:=hide hh1
    clear hc1 hb1 hh1
    go_wp2_with fail
    refine (columns29_any _).mono ?_
    rintro e w2 ⟨⟨rfl,hc2⟩,hb2⟩
    have HG2:=hide (HG1.out.bel HF.out hb2)
    have HH1:=hide (HH1.out.up (Up.below hb2))
    have hh2:=hi29c (B:=g6+1) hc2 (by obtain ⟨_,_,h⟩:=HG1.out.num;have:=h.lt;omega)
    have HH2:=hide hh2
    clear hc2 hb2 hh2
    obtain ⟨j2,hnum⟩:=HG2.out.numb HO6.out HL.out (by omega)
    go_wp2_with fail
    refine (tableW_any w2 g6 A n c l j2 hnum _ 3 3 c29 (HH2.out.off (by omega)) c29_good (by omega) 8 (by omega) (by omega)).mono ?_
    rintro e w3 ⟨v,xs,zs,q,j3,rfl,hf,hx,hxl,hno,hn3,hg3⟩
    obtain ⟨AT,cT,rfl,hi5⟩:=hf.hi
    have HG3:=hide (HG2.out.gr HO6.out HF.out hg3 hn3)
    have HH1:=hide (HH1.out.up (Up.grown hg3 (by omega)))
    have hi6:Hi (g6+1) w3 AT zs.length cT zs:=Sl.mono (λk (hk:w2.heap.size<=k/\k<w3.heap.size)=>⟨by obtain ⟨_,_,h⟩:=HG2.out.num;have:=h.lt;omega,hk.2⟩) hi5
    have HI6:=hide hi6
    have HTO:=hide (show TabOf c29 zs from ⟨xs,q,hx,hxl,hno⟩)
    clear hf hx hxl hno hn3 hg3 hnum hi5 hi6
    obtain ⟨LTZ,z0,z1,z2,z3⟩:=HG3.out.kr.ats4
    have fz0:=HG3.out.kr.fz 0
    have fz1:=HG3.out.kr.fz 1
    have fz2:=HG3.out.kr.fz 2
    have fz3:=HG3.out.kr.fz 3
    go_wp2_with fail
    go_meet
    case rel=>exact ⟨some ⟨wc.heap.size,0,none⟩,AT,zs.length,cT,zs,(HG3.out.mapF (F':=λV=>(Hi (g6+1) V A' n' c' cc.cols/\Hi (g6+1) V A'' n'' c'' cc.ocols/\Hi (g6+1) V A3 n3 c3 cc.cond)/\Hi (g6+1) V (some ⟨wc.heap.size,0,none⟩) 3 3 c29/\Hi (g6+1) V AT zs.length cT zs) ⟨HG3.out.f,HH1.out,HI6.out⟩).setR HO6.out (λV V1 hu q=>⟨⟨q.1.1.up hu,q.1.2.1.up hu,q.1.2.2.up hu⟩,q.2.1.up hu,q.2.2.up hu⟩) rfl (.string ⟨#[114]⟩) (.slice (some ⟨wc.heap.size,0,none⟩) 3 3) (.slice none 0 0) (.slice AT zs.length cT),HTO.out⟩
   case rest=>
    obtain ⟨A1,A5,n5,c5,rows,hg,hto⟩:=hcut
    have HG:=hide hg
    have HTR:=hide hto
    have HF:Hid (St (g6+1) (λV=>(Hi (g6+1) V A' n' c' cc.cols/\Hi (g6+1) V A'' n'' c'' cc.ocols/\Hi (g6+1) V A3 n3 c3 cc.cond)/\Hi (g6+1) V A1 3 3 c29/\Hi (g6+1) V A5 n5 c5 rows)):=hide (λV V1 hu q=>⟨⟨q.1.1.up hu,q.1.2.1.up hu,q.1.2.2.up hu⟩,q.2.1.up hu,q.2.2.up hu⟩)
    clear hg hto
    go_step
    go_step
    go_cut [] (λwx=> ∃(A2:Option Addr) (A6:Option Addr) (n6 c6:Nat) (orows:List Ent),G29 w g1 g2 g3 g4 g5 g6 A n c (chkCells cc A' n' c' A'' n'' c'' A3 n3 c3) [.string ⟨#[114]⟩,.slice A1 3 3,.slice none 0 0,.slice A5 n5 c5] [.string ⟨#[111]⟩,.slice A2 3 3,.slice none 0 0,.slice A6 n6 c6] [.string ⟨#[]⟩,.slice none 0 0,.slice none 0 0,.slice none 0 0] [.string ⟨#[]⟩,.slice none 0 0,.slice none 0 0,.slice none 0 0] (λV=>((Hi (g6+1) V A' n' c' cc.cols/\Hi (g6+1) V A'' n'' c'' cc.ocols/\Hi (g6+1) V A3 n3 c3 cc.cond)/\Hi (g6+1) V A1 3 3 c29/\Hi (g6+1) V A5 n5 c5 rows)/\Hi (g6+1) V A2 3 3 c29/\Hi (g6+1) V A6 n6 c6 orows) wx/\TabOf c29 orows)
    case first=>
     go_wp2_with fail
     refine (columns29_any _).mono ?_
     rintro e w1 ⟨⟨rfl,hc1⟩,hb1⟩
     have HG1:=hide (HG.out.bel HF.out hb1)
     have hh1:=hi29c (B:=g6+1) hc1 (by obtain ⟨_,_,h⟩:=HG.out.num;have:=h.lt;omega)
     have HH1:=hide hh1
     clear hc1 hb1 hh1
     go_wp2_with fail
     refine (columns29_any _).mono ?_
     rintro e w2 ⟨⟨rfl,hc2⟩,hb2⟩
     have HG2:=hide (HG1.out.bel HF.out hb2)
     have HH1:=hide (HH1.out.up (Up.below hb2))
     have hh2:=hi29c (B:=g6+1) hc2 (by obtain ⟨_,_,h⟩:=HG1.out.num;have:=h.lt;omega)
     have HH2:=hide hh2
     clear hc2 hb2 hh2
     obtain ⟨j2,hnum⟩:=HG2.out.numb HO6.out HL.out (by omega)
     go_wp2_with fail
     refine (tableW_any w2 g6 A n c l j2 hnum _ 3 3 c29 (HH2.out.off (by omega)) c29_good (by omega) 5 (by omega) (by omega)).mono ?_
     rintro e w3 ⟨v,xs,zs,q,j3,rfl,hf,hx,hxl,hno,hn3,hg3⟩
     obtain ⟨AT,cT,rfl,hi5⟩:=hf.hi
     have HG3:=hide (HG2.out.gr HO6.out HF.out hg3 hn3)
     have HH1:=hide (HH1.out.up (Up.grown hg3 (by omega)))
     have hi6:Hi (g6+1) w3 AT zs.length cT zs:=Sl.mono (λk (hk:w2.heap.size<=k/\k<w3.heap.size)=>⟨by obtain ⟨_,_,h⟩:=HG2.out.num;have:=h.lt;omega,hk.2⟩) hi5
     have HI6:=hide hi6
     have HTO:=hide (show TabOf c29 zs from ⟨xs,q,hx,hxl,hno⟩)
     clear hf hx hxl hno hn3 hg3 hnum hi5 hi6
     obtain ⟨LTZ,z0,z1,z2,z3⟩:=HG3.out.ko.ats4
     have fz0:=HG3.out.ko.fz 0
     have fz1:=HG3.out.ko.fz 1
     have fz2:=HG3.out.ko.fz 2
     have fz3:=HG3.out.ko.fz 3
     go_wp2_with fail
     go_meet
     case rel=>exact ⟨some ⟨wc.heap.size,0,none⟩,AT,zs.length,cT,zs,(HG3.out.mapF (F':=λV=>((Hi (g6+1) V A' n' c' cc.cols/\Hi (g6+1) V A'' n'' c'' cc.ocols/\Hi (g6+1) V A3 n3 c3 cc.cond)/\Hi (g6+1) V A1 3 3 c29/\Hi (g6+1) V A5 n5 c5 rows)/\Hi (g6+1) V (some ⟨wc.heap.size,0,none⟩) 3 3 c29/\Hi (g6+1) V AT zs.length cT zs) ⟨HG3.out.f,HH1.out,HI6.out⟩).setO HO6.out (λV V1 hu q=>⟨⟨⟨q.1.1.1.up hu,q.1.1.2.1.up hu,q.1.1.2.2.up hu⟩,q.1.2.1.up hu,q.1.2.2.up hu⟩,q.2.1.up hu,q.2.2.up hu⟩) rfl (.string ⟨#[111]⟩) (.slice (some ⟨wc.heap.size,0,none⟩) 3 3) (.slice none 0 0) (.slice AT zs.length cT),HTO.out⟩
    case rest=>
     obtain ⟨A2,A6,n6,c6,orows,hg,hto⟩:=hcut
     have HG:=hide hg
     have HTO:=hide hto
     have HF:Hid (St (g6+1) (λV=>((Hi (g6+1) V A' n' c' cc.cols/\Hi (g6+1) V A'' n'' c'' cc.ocols/\Hi (g6+1) V A3 n3 c3 cc.cond)/\Hi (g6+1) V A1 3 3 c29/\Hi (g6+1) V A5 n5 c5 rows)/\Hi (g6+1) V A2 3 3 c29/\Hi (g6+1) V A6 n6 c6 orows)):=hide (λV V1 hu q=>⟨⟨⟨q.1.1.1.up hu,q.1.1.2.1.up hu,q.1.1.2.2.up hu⟩,q.1.2.1.up hu,q.1.2.2.up hu⟩,q.2.1.up hu,q.2.2.up hu⟩)
     clear hg hto
     go_step
     go_step
     go_cut [] (λwx=>G29 w g1 g2 g3 g4 g5 g6 A n c (chkCells cc A' n' c' A'' n'' c'' A3 n3 c3) [.string ⟨#[114]⟩,.slice A1 3 3,.slice none 0 0,.slice A5 n5 c5] [.string ⟨#[111]⟩,.slice A2 3 3,.slice none 0 0,.slice A6 n6 c6] [.string ⟨#[114]⟩,.slice A1 3 3,.slice none 0 0,.slice A5 n5 c5] [.string ⟨#[111]⟩,.slice A2 3 3,.slice none 0 0,.slice A6 n6 c6] (λV=>((Hi (g6+1) V A' n' c' cc.cols/\Hi (g6+1) V A'' n'' c'' cc.ocols/\Hi (g6+1) V A3 n3 c3 cc.cond)/\Hi (g6+1) V A1 3 3 c29/\Hi (g6+1) V A5 n5 c5 rows)/\Hi (g6+1) V A2 3 3 c29/\Hi (g6+1) V A6 n6 c6 orows) wx)
     case first=>
      refine wp_region_deps (by kernel_rfl) (λ| 2=>[0]| 3=>[1]| _=>[]) (by kernel_rfl) (λL a V=> ∃v86 v87,a=⟨#[.slice A n c,.int .i64 kind,undef,undef,.pointer (some ⟨g1,0,none⟩),.pointer (some ⟨g2,0,none⟩),.pointer (some ⟨g3,0,none⟩),.pointer (some ⟨g4,0,none⟩),.pointer (some ⟨g5,0,none⟩),.pointer (some ⟨g6,0,none⟩),u10,u11,u12,u13,u14,u15,u16,u17,u18,u19,u20,u21,u22,u23,u24,u25,u26,u27,u28,u29,u30,u31,u32,u33,u34,u35,u36,u37,u38,u39,u40,u41,u42,u43,u44,u45,u46,u47,u48,u49,u50,u51,u52,u53,u54,u55,u56,u57,u58,u59,u60,u61,u62,u63,u64,u65,u66,u67,u68,u69,u70,u71,u72,u73,u74,u75,u76,u77,u78,u79,u80,u81,u82,u83,u84,u85,v86,v87,u88,u89,u90,u91,u92,u93,u94,u95,u96,u97,u98,u99,u100,u101,u102,u103,u104],[]⟩/\ ∃x0 x1 x2 x3 y0 y1 y2 y3,G29 w g1 g2 g3 g4 g5 g6 A n c (chkCells cc A' n' c' A'' n'' c'' A3 n3 c3) [.string ⟨#[114]⟩,.slice A1 3 3,.slice none 0 0,.slice A5 n5 c5] [.string ⟨#[111]⟩,.slice A2 3 3,.slice none 0 0,.slice A6 n6 c6] [x0,x1,x2,x3] [y0,y1,y2,y3] (λV=>((Hi (g6+1) V A' n' c' cc.cols/\Hi (g6+1) V A'' n'' c'' cc.ocols/\Hi (g6+1) V A3 n3 c3 cc.cond)/\Hi (g6+1) V A1 3 3 c29/\Hi (g6+1) V A5 n5 c5 rows)/\Hi (g6+1) V A2 3 3 c29/\Hi (g6+1) V A6 n6 c6 orows) V/\(L 0=true->v86=.agg ([.string ⟨#[114]⟩,.slice A1 3 3,.slice none 0 0,.slice A5 n5 c5]:List Value).toArray)/\(L 1=true->v87=.agg ([.string ⟨#[111]⟩,.slice A2 3 3,.slice none 0 0,.slice A6 n6 c6]:List Value).toArray)/\(L 2=true->[x0,x1,x2,x3]=[.string ⟨#[114]⟩,.slice A1 3 3,.slice none 0 0,.slice A5 n5 c5])/\(L 3=true->[y0,y1,y2,y3]=[.string ⟨#[111]⟩,.slice A2 3 3,.slice none 0 0,.slice A6 n6 c6])) ?_ ?_ ?_
      ·exact ⟨_,_,rfl,_,_,_,_,_,_,_,_,HG.out.bel HF.out (Below.refl _ _).drew,(λq=>by cases q),(λq=>by cases q),(λq=>by cases q),(λq=>by cases q)⟩
      ·intro L i a V hi hL hd hI
       obtain ⟨v86,v87,rfl,hI⟩:=hI
       have hi:i<4:=hi
       have HI:=hide hI
       have HD:=hide hd
       clear hI hd hL
       obtain rfl|rfl|rfl|rfl:i=0\/i=1\/i=2\/i=3:=by omega
       ·obtain ⟨x0,x1,x2,x3,y0,y1,y2,y3,hG,p0,p1,p2,p3⟩:=HI.out
        have HG1:=hide hG
        have P0:=hide p0
        have P1:=hide p1
        have P2:=hide p2
        have P3:=hide p3
        clear hG p0 p1 p2 p3
        obtain ⟨LTr,r0,r1,r2,r3⟩:=HG1.out.kr.ats4
        refine wpOp_step rfl (λK1 hK=>?_)
        have HK:=hide hK
        clear hK
        go_simp
        exact HK.out _ _ ⟨_,_,rfl,x0,x1,x2,x3,y0,y1,y2,y3,HG1.out,λ_=>rfl,P1.out,P2.out,P3.out⟩
       ·obtain ⟨x0,x1,x2,x3,y0,y1,y2,y3,hG,p0,p1,p2,p3⟩:=HI.out
        have HG1:=hide hG
        have P0:=hide p0
        have P1:=hide p1
        have P2:=hide p2
        have P3:=hide p3
        clear hG p0 p1 p2 p3
        obtain ⟨LTr,r0,r1,r2,r3⟩:=HG1.out.ko.ats4
        refine wpOp_step rfl (λK1 hK=>?_)
        have HK:=hide hK
        clear hK
        go_simp
        exact HK.out _ _ ⟨_,_,rfl,x0,x1,x2,x3,y0,y1,y2,y3,HG1.out,P0.out,λ_=>rfl,P2.out,P3.out⟩
       ·obtain ⟨x0,x1,x2,x3,y0,y1,y2,y3,hG,p0,p1,p2,p3⟩:=HI.out
        obtain rfl:=p0 (HD.out 0 (by simp))
        have HG1:=hide hG
        have P0:=hide p0
        have P1:=hide p1
        have P2:=hide p2
        have P3:=hide p3
        clear hG p0 p1 p2 p3
        obtain ⟨LTr,r0,r1,r2,r3⟩:=HG1.out.kx.ats4
        have rf0:=HG1.out.kx.fz 0
        have rf1:=HG1.out.kx.fz 1
        have rf2:=HG1.out.kx.fz 2
        have rf3:=HG1.out.kx.fz 3
        refine wpOp_step rfl (λK1 hK=>?_)
        have HK:=hide hK
        clear hK
        go_simp
        exact HK.out _ _ ⟨_,_,rfl,_,_,_,_,y0,y1,y2,y3,HG1.out.setX HO6.out HF.out rfl _ _ _ _,λ_=>rfl,P1.out,λ_=>rfl,P3.out⟩
       ·obtain ⟨x0,x1,x2,x3,y0,y1,y2,y3,hG,p0,p1,p2,p3⟩:=HI.out
        obtain rfl:=p1 (HD.out 1 (by simp))
        have HG1:=hide hG
        have P0:=hide p0
        have P1:=hide p1
        have P2:=hide p2
        have P3:=hide p3
        clear hG p0 p1 p2 p3
        obtain ⟨LTr,r0,r1,r2,r3⟩:=HG1.out.ky.ats4
        have rf0:=HG1.out.ky.fz 0
        have rf1:=HG1.out.ky.fz 1
        have rf2:=HG1.out.ky.fz 2
        have rf3:=HG1.out.ky.fz 3
        refine wpOp_step rfl (λK1 hK=>?_)
        have HK:=hide hK
        clear hK
        go_simp
        exact HK.out _ _ ⟨_,_,rfl,x0,x1,x2,x3,_,_,_,_,HG1.out.setY HO6.out HF.out rfl _ _ _ _,P0.out,λ_=>rfl,P2.out,λ_=>rfl⟩
      ·intro L a V hL hI
       obtain ⟨v86,v87,rfl,hI⟩:=hI
       obtain ⟨x0,x1,x2,x3,y0,y1,y2,y3,hG,_,_,p2,p3⟩:=hI
       rw[p2 (hL 2 (by show 2<4;omega)),p3 (hL 3 (by show 3<4;omega))]at hG
       have HG1:=hide hG
       clear hG p2 p3 hL
       go_wp2_with fail
       go_meet
       case rel=>exact HG1.out
     case rest=>
      have HG:=hide hcut
      clear hcut
      go_step
      go_step
      have HTB:=hide (Tb.of (cols:=c29) (by decide) HTR.out)
      have HLE:Hid (n5<=1000):=hide (by have:=(HG.out.f.1.2.2).inn.len;have:=HTB.out.len;omega)
      have HCN:=hide (λx hx=>by have:=HTB.out.pos x hx;omega: ∀x∈rows,(1:Int)<=x.count/\x.count<=65536)
      have HFT:=hide (HTB.out.fit)
      have HFR: ∀{V:World},(((Hi (g6+1) V A' n' c' cc.cols/\Hi (g6+1) V A'' n'' c'' cc.ocols/\Hi (g6+1) V A3 n3 c3 cc.cond)/\Hi (g6+1) V A1 3 3 c29/\Hi (g6+1) V A5 n5 c5 rows)/\Hi (g6+1) V A2 3 3 c29/\Hi (g6+1) V A6 n6 c6 orows)->Hi (g6+1) V A5 n5 c5 rows:=λq=>q.1.2.2
      have HMW: ∀zs,Mv c29 rows zs 3->Mv c29 rows zs 3:=λzs h=>h
      go_cut [] (λwx=> ∃(A7:Option Addr) (n7 c7:Nat) (xs:List Ent),G29 w g1 g2 g3 g4 g5 g6 A n c (chkCells cc A' n' c' A'' n'' c'' A3 n3 c3) [.string ⟨#[114]⟩,.slice A1 3 3,.slice none 0 0,.slice A5 n5 c5] [.string ⟨#[111]⟩,.slice A2 3 3,.slice none 0 0,.slice A6 n6 c6] [.string ⟨#[114]⟩,.slice A1 3 3,.slice none 0 0,.slice A7 n7 c7] [.string ⟨#[111]⟩,.slice A2 3 3,.slice none 0 0,.slice A6 n6 c6] (λV=>(((Hi (g6+1) V A' n' c' cc.cols/\Hi (g6+1) V A'' n'' c'' cc.ocols/\Hi (g6+1) V A3 n3 c3 cc.cond)/\Hi (g6+1) V A1 3 3 c29/\Hi (g6+1) V A5 n5 c5 rows)/\Hi (g6+1) V A2 3 3 c29/\Hi (g6+1) V A6 n6 c6 orows)/\Hi (g6+1) V A7 n7 c7 xs) wx/\Mv c29 rows xs 3)
      case first=>
       refine wp_region_deps (by kernel_rfl) (λ| 2=>[1]| 4=>[0,2,3]| 6=>[5,4]| _=>[]) (by kernel_rfl) (λL a V=> ∃v88 v89 v90 v91 v92 v93,a=⟨#[.slice A n c,.int .i64 kind,undef,undef,.pointer (some ⟨g1,0,none⟩),.pointer (some ⟨g2,0,none⟩),.pointer (some ⟨g3,0,none⟩),.pointer (some ⟨g4,0,none⟩),.pointer (some ⟨g5,0,none⟩),.pointer (some ⟨g6,0,none⟩),u10,u11,u12,u13,u14,u15,u16,u17,u18,u19,u20,u21,u22,u23,u24,u25,u26,u27,u28,u29,u30,u31,u32,u33,u34,u35,u36,u37,u38,u39,u40,u41,u42,u43,u44,u45,u46,u47,u48,u49,u50,u51,u52,u53,u54,u55,u56,u57,u58,u59,u60,u61,u62,u63,u64,u65,u66,u67,u68,u69,u70,u71,u72,u73,u74,u75,u76,u77,u78,u79,u80,u81,u82,u83,u84,u85,u86,u87,v88,v89,v90,v91,v92,v93,u94,u95,u96,u97,u98,u99,u100,u101,u102,u103,u104],[]⟩/\ ∃B9 m9 d9,G29 w g1 g2 g3 g4 g5 g6 A n c (chkCells cc A' n' c' A'' n'' c'' A3 n3 c3) [.string ⟨#[114]⟩,.slice A1 3 3,.slice none 0 0,.slice A5 n5 c5] [.string ⟨#[111]⟩,.slice A2 3 3,.slice none 0 0,.slice A6 n6 c6] [.string ⟨#[114]⟩,.slice A1 3 3,.slice none 0 0,.slice B9 m9 d9] [.string ⟨#[111]⟩,.slice A2 3 3,.slice none 0 0,.slice A6 n6 c6] (λV=>((Hi (g6+1) V A' n' c' cc.cols/\Hi (g6+1) V A'' n'' c'' cc.ocols/\Hi (g6+1) V A3 n3 c3 cc.cond)/\Hi (g6+1) V A1 3 3 c29/\Hi (g6+1) V A5 n5 c5 rows)/\Hi (g6+1) V A2 3 3 c29/\Hi (g6+1) V A6 n6 c6 orows) V/\(L 0=true-> ∃A9,v88=.slice A9 3 3/\Hi (g6+1) V A9 3 3 c29)/\(L 1=true->v89=.pointer (some ⟨g2,3,none⟩))/\(L 2=true->v90=.slice A5 n5 c5)/\(L 3=true->v91=.pointer (some ⟨g6,0,none⟩))/\(L 4=true-> ∃A7 n7 c7 xs,v92=.slice A7 n7 c7/\Hi (g6+1) V A7 n7 c7 xs/\Mv c29 rows xs 3)/\(L 5=true->v93=.pointer (some ⟨g4,3,none⟩))/\(L 6=true-> ∃xs,Hi (g6+1) V B9 m9 d9 xs/\Mv c29 rows xs 3)) ?_ ?_ ?_
       ·exact ⟨_,_,_,_,_,_,rfl,_,_,_,HG.out.bel HF.out (Below.refl _ _).drew,(λq=>by cases q),(λq=>by cases q),(λq=>by cases q),(λq=>by cases q),(λq=>by cases q),(λq=>by cases q),(λq=>by cases q)⟩
       ·intro L i a V hi hL hd hI
        obtain ⟨v88,v89,v90,v91,v92,v93,rfl,hI⟩:=hI
        have hi:i<7:=hi
        have HI:=hide hI
        have HD:=hide hd
        clear hI hd hL
        obtain rfl|rfl|rfl|rfl|rfl|rfl|rfl:i=0\/i=1\/i=2\/i=3\/i=4\/i=5\/i=6:=by omega
        ·obtain ⟨B9,m9,d9,hG,p0,p1,p2,p3,p4,p5,p6⟩:=HI.out
         have HG1:=hide hG
         have P0:=hide p0
         have P1:=hide p1
         have P2:=hide p2
         have P3:=hide p3
         have P4:=hide p4
         have P5:=hide p5
         have P6:=hide p6
         clear hG p0 p1 p2 p3 p4 p5 p6
         refine wpOp_step rfl (λK1 hK=>?_)
         have HK:=hide hK
         clear hK
         go_simp
         go_at_call 21
         refine (columns29_any _).mono ?_
         rintro e w1 ⟨⟨rfl,hc1⟩,hb1⟩
         have HC1:=hide (hi29c (B:=g6+1) hc1 (by obtain ⟨_,_,h⟩:=HG1.out.num;have:=h.lt;omega))
         have HB1:=hide hb1
         clear hc1 hb1
         go_wp2_with fail
         exact HK.out _ _ ⟨_,_,_,_,_,_,rfl,B9,m9,d9,HG1.out.bel HF.out HB1.out,(λ_=>⟨_,rfl,HC1.out⟩),P1.out,P2.out,P3.out,(λq=>by obtain ⟨A7,n7,c7,xs,e,h,k⟩:=P4.out q;exact ⟨A7,n7,c7,xs,e,h.up (Up.below HB1.out),k⟩),P5.out,(λq=>by obtain ⟨xs,h,k⟩:=P6.out q;exact ⟨xs,h.up (Up.below HB1.out),k⟩)⟩
        ·obtain ⟨B9,m9,d9,hG,p0,p1,p2,p3,p4,p5,p6⟩:=HI.out
         have HG1:=hide hG
         have P0:=hide p0
         have P1:=hide p1
         have P2:=hide p2
         have P3:=hide p3
         have P4:=hide p4
         have P5:=hide p5
         have P6:=hide p6
         clear hG p0 p1 p2 p3 p4 p5 p6
         refine wpOp_step rfl (λK1 hK=>?_)
         have HK:=hide hK
         clear hK
         go_simp
         exact HK.out _ _ ⟨_,_,_,_,_,_,rfl,B9,m9,d9,HG1.out,P0.out,(λ_=>rfl),P2.out,P3.out,P4.out,P5.out,P6.out⟩
        ·obtain ⟨B9,m9,d9,hG,p0,p1,p2,p3,p4,p5,p6⟩:=HI.out
         obtain rfl:=p1 (HD.out 1 (by simp))
         have HG1:=hide hG
         have P0:=hide p0
         have P1:=hide p1
         have P2:=hide p2
         have P3:=hide p3
         have P4:=hide p4
         have P5:=hide p5
         have P6:=hide p6
         clear hG p0 p1 p2 p3 p4 p5 p6
         obtain ⟨LTr,r0,r1,r2,r3⟩:=HG1.out.kr.ats4
         refine wpOp_step rfl (λK1 hK=>?_)
         have HK:=hide hK
         clear hK
         go_simp
         exact HK.out _ _ ⟨_,_,_,_,_,_,rfl,B9,m9,d9,HG1.out,P0.out,P1.out,(λ_=>rfl),P3.out,P4.out,P5.out,P6.out⟩
        ·obtain ⟨B9,m9,d9,hG,p0,p1,p2,p3,p4,p5,p6⟩:=HI.out
         have HG1:=hide hG
         have P0:=hide p0
         have P1:=hide p1
         have P2:=hide p2
         have P3:=hide p3
         have P4:=hide p4
         have P5:=hide p5
         have P6:=hide p6
         clear hG p0 p1 p2 p3 p4 p5 p6
         refine wpOp_step rfl (λK1 hK=>?_)
         have HK:=hide hK
         clear hK
         go_simp
         exact HK.out _ _ ⟨_,_,_,_,_,_,rfl,B9,m9,d9,HG1.out,P0.out,P1.out,P2.out,(λ_=>rfl),P4.out,P5.out,P6.out⟩
        ·obtain ⟨B9,m9,d9,hG,p0,p1,p2,p3,p4,p5,p6⟩:=HI.out
         obtain rfl:=p2 (HD.out 2 (by simp))
         obtain rfl:=p3 (HD.out 3 (by simp))
         obtain ⟨A9,rfl,h9⟩:=p0 (HD.out 0 (by simp))
         have H9:=hide h9
         clear h9
         have HG1:=hide hG
         have P0:=hide p0
         have P1:=hide p1
         have P2:=hide p2
         have P3:=hide p3
         have P4:=hide p4
         have P5:=hide p5
         have P6:=hide p6
         clear hG p0 p1 p2 p3 p4 p5 p6
         obtain ⟨j2,hnum⟩:=HG1.out.numb HO6.out HL.out (by omega)
         have HNUM:=hide hnum
         clear hnum
         refine wpOp_step rfl (λK1 hK=>?_)
         have HK:=hide hK
         clear hK
         go_simp
         go_at_call 20
         refine (changeI_any _ g6 A n c l j2 HNUM.out A9 3 3 c29 (H9.out.off (by omega)) c29_good (by omega) A5 n5 c5 rows ((HFR (HG1.out.f)).off (by omega)) HLE.out HCN.out HFT.out 3 (by omega) (by omega)).mono ?_
         rintro e w1 ⟨v,ws,zs,q,j3,rfl,hoe,hf,hch,hno,hn3,hg9⟩
         obtain ⟨A7,c7,rfl,hs⟩:=hoe.sl
         have HS7:Hid (Hi (g6+1) w1 A7 zs.length c7 zs):=hide (hs.mono λk hk=>by rcases hk with ⟨h,_⟩|⟨h,t,_,ht⟩;exact h.elim;exact ⟨by obtain ⟨_,_,h6⟩:=HG1.out.num;have:=h6.lt;omega,ht.lt⟩)
         have HMV:=hide (Mv.of (by decide) HTB.out hf hch hno)
         have HG9:=hide hg9
         have HN9:=hide hn3
         clear hoe hf hch hno hn3 hg9 hs
         go_wp2_with fail
         exact HK.out _ _ ⟨_,_,_,_,_,_,rfl,B9,m9,d9,HG1.out.gr HO6.out HF.out HG9.out HN9.out,(λ_=>⟨A9,rfl,H9.out.up (Up.grown HG9.out (by omega))⟩),P1.out,(λ_=>rfl),(λ_=>rfl),(λ_=>⟨A7,_,c7,zs,rfl,HS7.out,HMW _ HMV.out⟩),P5.out,(λq=>by obtain ⟨xs,h,k⟩:=P6.out q;exact ⟨xs,h.up (Up.grown HG9.out (by omega)),k⟩)⟩
        ·obtain ⟨B9,m9,d9,hG,p0,p1,p2,p3,p4,p5,p6⟩:=HI.out
         have HG1:=hide hG
         have P0:=hide p0
         have P1:=hide p1
         have P2:=hide p2
         have P3:=hide p3
         have P4:=hide p4
         have P5:=hide p5
         have P6:=hide p6
         clear hG p0 p1 p2 p3 p4 p5 p6
         refine wpOp_step rfl (λK1 hK=>?_)
         have HK:=hide hK
         clear hK
         go_simp
         exact HK.out _ _ ⟨_,_,_,_,_,_,rfl,B9,m9,d9,HG1.out,P0.out,P1.out,P2.out,P3.out,P4.out,(λ_=>rfl),P6.out⟩
        ·obtain ⟨B9,m9,d9,hG,p0,p1,p2,p3,p4,p5,p6⟩:=HI.out
         obtain ⟨A7,n7,c7,xs,rfl,h7,k7⟩:=p4 (HD.out 4 (by simp))
         obtain rfl:=p5 (HD.out 5 (by simp))
         have H7:=hide h7
         have K7:=hide k7
         clear h7 k7
         have HG1:=hide hG
         have P0:=hide p0
         have P1:=hide p1
         have P2:=hide p2
         have P3:=hide p3
         have P4:=hide p4
         have P5:=hide p5
         have P6:=hide p6
         clear hG p0 p1 p2 p3 p4 p5 p6
         obtain ⟨LTr,r0,r1,r2,r3⟩:=HG1.out.kx.ats4
         have rf3:=HG1.out.kx.fz 3
         refine wpOp_step rfl (λK1 hK=>?_)
         have HK:=hide hK
         clear hK
         go_simp
         exact HK.out _ _ ⟨_,_,_,_,_,_,rfl,_,_,_,HG1.out.oneX HO6.out HF.out _,(λq=>by obtain ⟨A9,e,h⟩:=P0.out q;exact ⟨A9,e,h.up (Up.grown grown_set (by have:=HO6.out;unfold Ord6 at this;omega))⟩),P1.out,P2.out,P3.out,(λ_=>⟨A7,n7,c7,xs,rfl,H7.out.up (Up.grown grown_set (by have:=HO6.out;unfold Ord6 at this;omega)),K7.out⟩),P5.out,(λ_=>⟨xs,H7.out.up (Up.grown grown_set (by have:=HO6.out;unfold Ord6 at this;omega)),K7.out⟩)⟩
       ·intro L a V hL hI
        obtain ⟨v88,v89,v90,v91,v92,v93,rfl,hI⟩:=hI
        obtain ⟨B9,m9,d9,hG,_,_,_,_,_,_,p6⟩:=hI
        obtain ⟨xs,h6,k6⟩:=p6 (hL 6 (by show 6<7;omega))
        have HG1:=hide hG
        have H6:=hide h6
        have K6:=hide k6
        clear hG h6 k6 hL p6
        go_wp2_with fail
        go_meet
        case rel=>exact ⟨B9,m9,d9,xs,HG1.out.mapF ⟨HG1.out.f,H6.out⟩,K6.out⟩
      case rest=>
       obtain ⟨A7,n7,c7,xs,hg,hmx⟩:=hcut
       have HG:=hide hg
       have HMX:=hide hmx
       have HF:Hid (St (g6+1) (λV=>(((Hi (g6+1) V A' n' c' cc.cols/\Hi (g6+1) V A'' n'' c'' cc.ocols/\Hi (g6+1) V A3 n3 c3 cc.cond)/\Hi (g6+1) V A1 3 3 c29/\Hi (g6+1) V A5 n5 c5 rows)/\Hi (g6+1) V A2 3 3 c29/\Hi (g6+1) V A6 n6 c6 orows)/\Hi (g6+1) V A7 n7 c7 xs)):=hide (λV V1 hu q=>⟨⟨⟨⟨q.1.1.1.1.up hu,q.1.1.1.2.1.up hu,q.1.1.1.2.2.up hu⟩,q.1.1.2.1.up hu,q.1.1.2.2.up hu⟩,q.1.2.1.up hu,q.1.2.2.up hu⟩,q.2.up hu⟩)
       clear hg hmx HTB HLE HCN HFT HFR HMW
       go_step
       go_step
       have HTB:=hide (Tb.of (cols:=c29) (by decide) HTO.out)
       have HLE:Hid (n6<=1000):=hide (by have:=(HG.out.f.1.2.2).inn.len;have:=HTB.out.len;omega)
       have HCN:=hide (λx hx=>by have:=HTB.out.pos x hx;omega: ∀x∈orows,(1:Int)<=x.count/\x.count<=65536)
       have HFT:=hide (HTB.out.fit)
       have HFR: ∀{V:World},((((Hi (g6+1) V A' n' c' cc.cols/\Hi (g6+1) V A'' n'' c'' cc.ocols/\Hi (g6+1) V A3 n3 c3 cc.cond)/\Hi (g6+1) V A1 3 3 c29/\Hi (g6+1) V A5 n5 c5 rows)/\Hi (g6+1) V A2 3 3 c29/\Hi (g6+1) V A6 n6 c6 orows)/\Hi (g6+1) V A7 n7 c7 xs)->Hi (g6+1) V A6 n6 c6 orows:=λq=>q.1.2.2
       have HMW: ∀zs,Mv c29 orows zs 2->Mv c29 orows zs 3:=λzs h=>⟨h.bag,h.fit,h.low,λq=>by have:=h.high q;omega,by obtain ⟨bs,h1,h2⟩:=h.new;exact ⟨bs,by omega,h2⟩⟩
       go_cut [] (λwx=> ∃(A8:Option Addr) (n8 c8:Nat) (ys:List Ent),G29 w g1 g2 g3 g4 g5 g6 A n c (chkCells cc A' n' c' A'' n'' c'' A3 n3 c3) [.string ⟨#[114]⟩,.slice A1 3 3,.slice none 0 0,.slice A5 n5 c5] [.string ⟨#[111]⟩,.slice A2 3 3,.slice none 0 0,.slice A6 n6 c6] [.string ⟨#[114]⟩,.slice A1 3 3,.slice none 0 0,.slice A7 n7 c7] [.string ⟨#[111]⟩,.slice A2 3 3,.slice none 0 0,.slice A8 n8 c8] (λV=>((((Hi (g6+1) V A' n' c' cc.cols/\Hi (g6+1) V A'' n'' c'' cc.ocols/\Hi (g6+1) V A3 n3 c3 cc.cond)/\Hi (g6+1) V A1 3 3 c29/\Hi (g6+1) V A5 n5 c5 rows)/\Hi (g6+1) V A2 3 3 c29/\Hi (g6+1) V A6 n6 c6 orows)/\Hi (g6+1) V A7 n7 c7 xs)/\Hi (g6+1) V A8 n8 c8 ys) wx/\Mv c29 orows ys 3)
       case first=>
        refine wp_region_deps (by kernel_rfl) (λ| 2=>[1]| 4=>[0,2,3]| 6=>[5,4]| _=>[]) (by kernel_rfl) (λL a V=> ∃v94 v95 v96 v97 v98 v99,a=⟨#[.slice A n c,.int .i64 kind,undef,undef,.pointer (some ⟨g1,0,none⟩),.pointer (some ⟨g2,0,none⟩),.pointer (some ⟨g3,0,none⟩),.pointer (some ⟨g4,0,none⟩),.pointer (some ⟨g5,0,none⟩),.pointer (some ⟨g6,0,none⟩),u10,u11,u12,u13,u14,u15,u16,u17,u18,u19,u20,u21,u22,u23,u24,u25,u26,u27,u28,u29,u30,u31,u32,u33,u34,u35,u36,u37,u38,u39,u40,u41,u42,u43,u44,u45,u46,u47,u48,u49,u50,u51,u52,u53,u54,u55,u56,u57,u58,u59,u60,u61,u62,u63,u64,u65,u66,u67,u68,u69,u70,u71,u72,u73,u74,u75,u76,u77,u78,u79,u80,u81,u82,u83,u84,u85,u86,u87,u88,u89,u90,u91,u92,u93,v94,v95,v96,v97,v98,v99,u100,u101,u102,u103,u104],[]⟩/\ ∃B9 m9 d9,G29 w g1 g2 g3 g4 g5 g6 A n c (chkCells cc A' n' c' A'' n'' c'' A3 n3 c3) [.string ⟨#[114]⟩,.slice A1 3 3,.slice none 0 0,.slice A5 n5 c5] [.string ⟨#[111]⟩,.slice A2 3 3,.slice none 0 0,.slice A6 n6 c6] [.string ⟨#[114]⟩,.slice A1 3 3,.slice none 0 0,.slice A7 n7 c7] [.string ⟨#[111]⟩,.slice A2 3 3,.slice none 0 0,.slice B9 m9 d9] (λV=>(((Hi (g6+1) V A' n' c' cc.cols/\Hi (g6+1) V A'' n'' c'' cc.ocols/\Hi (g6+1) V A3 n3 c3 cc.cond)/\Hi (g6+1) V A1 3 3 c29/\Hi (g6+1) V A5 n5 c5 rows)/\Hi (g6+1) V A2 3 3 c29/\Hi (g6+1) V A6 n6 c6 orows)/\Hi (g6+1) V A7 n7 c7 xs) V/\(L 0=true-> ∃A9,v94=.slice A9 3 3/\Hi (g6+1) V A9 3 3 c29)/\(L 1=true->v95=.pointer (some ⟨g3,3,none⟩))/\(L 2=true->v96=.slice A6 n6 c6)/\(L 3=true->v97=.pointer (some ⟨g6,0,none⟩))/\(L 4=true-> ∃A7 n7 c7 xs,v98=.slice A7 n7 c7/\Hi (g6+1) V A7 n7 c7 xs/\Mv c29 orows xs 3)/\(L 5=true->v99=.pointer (some ⟨g5,3,none⟩))/\(L 6=true-> ∃xs,Hi (g6+1) V B9 m9 d9 xs/\Mv c29 orows xs 3)) ?_ ?_ ?_
        ·exact ⟨_,_,_,_,_,_,rfl,_,_,_,HG.out.bel HF.out (Below.refl _ _).drew,(λq=>by cases q),(λq=>by cases q),(λq=>by cases q),(λq=>by cases q),(λq=>by cases q),(λq=>by cases q),(λq=>by cases q)⟩
        ·intro L i a V hi hL hd hI
         obtain ⟨v94,v95,v96,v97,v98,v99,rfl,hI⟩:=hI
         have hi:i<7:=hi
         have HI:=hide hI
         have HD:=hide hd
         clear hI hd hL
         obtain rfl|rfl|rfl|rfl|rfl|rfl|rfl:i=0\/i=1\/i=2\/i=3\/i=4\/i=5\/i=6:=by omega
         ·obtain ⟨B9,m9,d9,hG,p0,p1,p2,p3,p4,p5,p6⟩:=HI.out
          have HG1:=hide hG
          have P0:=hide p0
          have P1:=hide p1
          have P2:=hide p2
          have P3:=hide p3
          have P4:=hide p4
          have P5:=hide p5
          have P6:=hide p6
          clear hG p0 p1 p2 p3 p4 p5 p6
          refine wpOp_step rfl (λK1 hK=>?_)
          have HK:=hide hK
          clear hK
          go_simp
          go_at_call 21
          refine (columns29_any _).mono ?_
          rintro e w1 ⟨⟨rfl,hc1⟩,hb1⟩
          have HC1:=hide (hi29c (B:=g6+1) hc1 (by obtain ⟨_,_,h⟩:=HG1.out.num;have:=h.lt;omega))
          have HB1:=hide hb1
          clear hc1 hb1
          go_wp2_with fail
          exact HK.out _ _ ⟨_,_,_,_,_,_,rfl,B9,m9,d9,HG1.out.bel HF.out HB1.out,(λ_=>⟨_,rfl,HC1.out⟩),P1.out,P2.out,P3.out,(λq=>by obtain ⟨A7,n7,c7,xs,e,h,k⟩:=P4.out q;exact ⟨A7,n7,c7,xs,e,h.up (Up.below HB1.out),k⟩),P5.out,(λq=>by obtain ⟨xs,h,k⟩:=P6.out q;exact ⟨xs,h.up (Up.below HB1.out),k⟩)⟩
         ·obtain ⟨B9,m9,d9,hG,p0,p1,p2,p3,p4,p5,p6⟩:=HI.out
          have HG1:=hide hG
          have P0:=hide p0
          have P1:=hide p1
          have P2:=hide p2
          have P3:=hide p3
          have P4:=hide p4
          have P5:=hide p5
          have P6:=hide p6
          clear hG p0 p1 p2 p3 p4 p5 p6
          refine wpOp_step rfl (λK1 hK=>?_)
          have HK:=hide hK
          clear hK
          go_simp
          exact HK.out _ _ ⟨_,_,_,_,_,_,rfl,B9,m9,d9,HG1.out,P0.out,(λ_=>rfl),P2.out,P3.out,P4.out,P5.out,P6.out⟩
         ·obtain ⟨B9,m9,d9,hG,p0,p1,p2,p3,p4,p5,p6⟩:=HI.out
          obtain rfl:=p1 (HD.out 1 (by simp))
          have HG1:=hide hG
          have P0:=hide p0
          have P1:=hide p1
          have P2:=hide p2
          have P3:=hide p3
          have P4:=hide p4
          have P5:=hide p5
          have P6:=hide p6
          clear hG p0 p1 p2 p3 p4 p5 p6
          obtain ⟨LTr,r0,r1,r2,r3⟩:=HG1.out.ko.ats4
          refine wpOp_step rfl (λK1 hK=>?_)
          have HK:=hide hK
          clear hK
          go_simp
          exact HK.out _ _ ⟨_,_,_,_,_,_,rfl,B9,m9,d9,HG1.out,P0.out,P1.out,(λ_=>rfl),P3.out,P4.out,P5.out,P6.out⟩
         ·obtain ⟨B9,m9,d9,hG,p0,p1,p2,p3,p4,p5,p6⟩:=HI.out
          have HG1:=hide hG
          have P0:=hide p0
          have P1:=hide p1
          have P2:=hide p2
          have P3:=hide p3
          have P4:=hide p4
          have P5:=hide p5
          have P6:=hide p6
          clear hG p0 p1 p2 p3 p4 p5 p6
          refine wpOp_step rfl (λK1 hK=>?_)
          have HK:=hide hK
          clear hK
          go_simp
          exact HK.out _ _ ⟨_,_,_,_,_,_,rfl,B9,m9,d9,HG1.out,P0.out,P1.out,P2.out,(λ_=>rfl),P4.out,P5.out,P6.out⟩
         ·obtain ⟨B9,m9,d9,hG,p0,p1,p2,p3,p4,p5,p6⟩:=HI.out
          obtain rfl:=p2 (HD.out 2 (by simp))
          obtain rfl:=p3 (HD.out 3 (by simp))
          obtain ⟨A9,rfl,h9⟩:=p0 (HD.out 0 (by simp))
          have H9:=hide h9
          clear h9
          have HG1:=hide hG
          have P0:=hide p0
          have P1:=hide p1
          have P2:=hide p2
          have P3:=hide p3
          have P4:=hide p4
          have P5:=hide p5
          have P6:=hide p6
          clear hG p0 p1 p2 p3 p4 p5 p6
          obtain ⟨j2,hnum⟩:=HG1.out.numb HO6.out HL.out (by omega)
          have HNUM:=hide hnum
          clear hnum
          refine wpOp_step rfl (λK1 hK=>?_)
          have HK:=hide hK
          clear hK
          go_simp
          go_at_call 20
          refine (changeI_any _ g6 A n c l j2 HNUM.out A9 3 3 c29 (H9.out.off (by omega)) c29_good (by omega) A6 n6 c6 orows ((HFR (HG1.out.f)).off (by omega)) HLE.out HCN.out HFT.out 2 (by omega) (by omega)).mono ?_
          rintro e w1 ⟨v,ws,zs,q,j3,rfl,hoe,hf,hch,hno,hn3,hg9⟩
          obtain ⟨A7,c7,rfl,hs⟩:=hoe.sl
          have HS7:Hid (Hi (g6+1) w1 A7 zs.length c7 zs):=hide (hs.mono λk hk=>by rcases hk with ⟨h,_⟩|⟨h,t,_,ht⟩;exact h.elim;exact ⟨by obtain ⟨_,_,h6⟩:=HG1.out.num;have:=h6.lt;omega,ht.lt⟩)
          have HMV:=hide (Mv.of (by decide) HTB.out hf hch hno)
          have HG9:=hide hg9
          have HN9:=hide hn3
          clear hoe hf hch hno hn3 hg9 hs
          go_wp2_with fail
          exact HK.out _ _ ⟨_,_,_,_,_,_,rfl,B9,m9,d9,HG1.out.gr HO6.out HF.out HG9.out HN9.out,(λ_=>⟨A9,rfl,H9.out.up (Up.grown HG9.out (by omega))⟩),P1.out,(λ_=>rfl),(λ_=>rfl),(λ_=>⟨A7,_,c7,zs,rfl,HS7.out,HMW _ HMV.out⟩),P5.out,(λq=>by obtain ⟨xs,h,k⟩:=P6.out q;exact ⟨xs,h.up (Up.grown HG9.out (by omega)),k⟩)⟩
         ·obtain ⟨B9,m9,d9,hG,p0,p1,p2,p3,p4,p5,p6⟩:=HI.out
          have HG1:=hide hG
          have P0:=hide p0
          have P1:=hide p1
          have P2:=hide p2
          have P3:=hide p3
          have P4:=hide p4
          have P5:=hide p5
          have P6:=hide p6
          clear hG p0 p1 p2 p3 p4 p5 p6
          refine wpOp_step rfl (λK1 hK=>?_)
          have HK:=hide hK
          clear hK
          go_simp
          exact HK.out _ _ ⟨_,_,_,_,_,_,rfl,B9,m9,d9,HG1.out,P0.out,P1.out,P2.out,P3.out,P4.out,(λ_=>rfl),P6.out⟩
         ·obtain ⟨B9,m9,d9,hG,p0,p1,p2,p3,p4,p5,p6⟩:=HI.out
          obtain ⟨A7,n7,c7,xs,rfl,h7,k7⟩:=p4 (HD.out 4 (by simp))
          obtain rfl:=p5 (HD.out 5 (by simp))
          have H7:=hide h7
          have K7:=hide k7
          clear h7 k7
          have HG1:=hide hG
          have P0:=hide p0
          have P1:=hide p1
          have P2:=hide p2
          have P3:=hide p3
          have P4:=hide p4
          have P5:=hide p5
          have P6:=hide p6
          clear hG p0 p1 p2 p3 p4 p5 p6
          obtain ⟨LTr,r0,r1,r2,r3⟩:=HG1.out.ky.ats4
          have rf3:=HG1.out.ky.fz 3
          refine wpOp_step rfl (λK1 hK=>?_)
          have HK:=hide hK
          clear hK
          go_simp
          exact HK.out _ _ ⟨_,_,_,_,_,_,rfl,_,_,_,HG1.out.oneY HO6.out HF.out _,(λq=>by obtain ⟨A9,e,h⟩:=P0.out q;exact ⟨A9,e,h.up (Up.grown grown_set (by have:=HO6.out;unfold Ord6 at this;omega))⟩),P1.out,P2.out,P3.out,(λ_=>⟨A7,n7,c7,xs,rfl,H7.out.up (Up.grown grown_set (by have:=HO6.out;unfold Ord6 at this;omega)),K7.out⟩),P5.out,(λ_=>⟨xs,H7.out.up (Up.grown grown_set (by have:=HO6.out;unfold Ord6 at this;omega)),K7.out⟩)⟩
        ·intro L a V hL hI
         obtain ⟨v94,v95,v96,v97,v98,v99,rfl,hI⟩:=hI
         obtain ⟨B9,m9,d9,hG,_,_,_,_,_,_,p6⟩:=hI
         obtain ⟨xs,h6,k6⟩:=p6 (hL 6 (by show 6<7;omega))
         have HG1:=hide hG
         have H6:=hide h6
         have K6:=hide k6
         clear hG h6 k6 hL p6
         go_wp2_with fail
         go_meet
         case rel=>exact ⟨B9,m9,d9,xs,HG1.out.mapF ⟨HG1.out.f,H6.out⟩,K6.out⟩
       case rest=>
        obtain ⟨A8,n8,c8,ys,hg,hmy⟩:=hcut
        have HG:=hide hg
        have HMY:=hide hmy
        have HF:Hid (St (g6+1) (λV=>((((Hi (g6+1) V A' n' c' cc.cols/\Hi (g6+1) V A'' n'' c'' cc.ocols/\Hi (g6+1) V A3 n3 c3 cc.cond)/\Hi (g6+1) V A1 3 3 c29/\Hi (g6+1) V A5 n5 c5 rows)/\Hi (g6+1) V A2 3 3 c29/\Hi (g6+1) V A6 n6 c6 orows)/\Hi (g6+1) V A7 n7 c7 xs)/\Hi (g6+1) V A8 n8 c8 ys)):=hide (λV V1 hu q=>⟨⟨⟨⟨⟨q.1.1.1.1.1.up hu,q.1.1.1.1.2.1.up hu,q.1.1.1.1.2.2.up hu⟩,q.1.1.1.2.1.up hu,q.1.1.1.2.2.up hu⟩,q.1.1.2.1.up hu,q.1.1.2.2.up hu⟩,q.1.2.up hu⟩,q.2.up hu⟩)
        clear hg hmy HTB HLE HCN HFT HFR HMW
        go_step
        go_step
        go_cut [] (λwx=>G29 w g1 g2 g3 g4 g5 g6 A n c (chkCells cc A' n' c' A'' n'' c'' A3 n3 c3) [.string ⟨#[114]⟩,.slice A1 3 3,.slice none 0 0,.slice A5 n5 c5] [.string ⟨#[111]⟩,.slice A2 3 3,.slice none 0 0,.slice A6 n6 c6] [.string ⟨#[114]⟩,.slice A1 3 3,.slice none 0 0,.slice A7 n7 c7] [.string ⟨#[111]⟩,.slice A2 3 3,.slice none 0 0,.slice A8 n8 c8] (λV=>((((Hi (g6+1) V A' n' c' cc.cols/\Hi (g6+1) V A'' n'' c'' cc.ocols/\Hi (g6+1) V A3 n3 c3 cc.cond)/\Hi (g6+1) V A1 3 3 c29/\Hi (g6+1) V A5 n5 c5 rows)/\Hi (g6+1) V A2 3 3 c29/\Hi (g6+1) V A6 n6 c6 orows)/\Hi (g6+1) V A7 n7 c7 xs)/\Hi (g6+1) V A8 n8 c8 ys) wx)
        case first=>
         refine wp_region_deps (by kernel_rfl) (λ| 5=>[0]| 6=>[1]| 7=>[2]| 8=>[3]| 9=>[4]| _=>[]) (by kernel_rfl) (λL a V=> ∃v100 v101 v102 v103 v104,a=⟨#[.slice A n c,.int .i64 kind,undef,undef,.pointer (some ⟨g1,0,none⟩),.pointer (some ⟨g2,0,none⟩),.pointer (some ⟨g3,0,none⟩),.pointer (some ⟨g4,0,none⟩),.pointer (some ⟨g5,0,none⟩),.pointer (some ⟨g6,0,none⟩),u10,u11,u12,u13,u14,u15,u16,u17,u18,u19,u20,u21,u22,u23,u24,u25,u26,u27,u28,u29,u30,u31,u32,u33,u34,u35,u36,u37,u38,u39,u40,u41,u42,u43,u44,u45,u46,u47,u48,u49,u50,u51,u52,u53,u54,u55,u56,u57,u58,u59,u60,u61,u62,u63,u64,u65,u66,u67,u68,u69,u70,u71,u72,u73,u74,u75,u76,u77,u78,u79,u80,u81,u82,u83,u84,u85,u86,u87,u88,u89,u90,u91,u92,u93,u94,u95,u96,u97,u98,u99,v100,v101,v102,v103,v104],[]⟩/\G29 w g1 g2 g3 g4 g5 g6 A n c (chkCells cc A' n' c' A'' n'' c'' A3 n3 c3) [.string ⟨#[114]⟩,.slice A1 3 3,.slice none 0 0,.slice A5 n5 c5] [.string ⟨#[111]⟩,.slice A2 3 3,.slice none 0 0,.slice A6 n6 c6] [.string ⟨#[114]⟩,.slice A1 3 3,.slice none 0 0,.slice A7 n7 c7] [.string ⟨#[111]⟩,.slice A2 3 3,.slice none 0 0,.slice A8 n8 c8] (λV=>((((Hi (g6+1) V A' n' c' cc.cols/\Hi (g6+1) V A'' n'' c'' cc.ocols/\Hi (g6+1) V A3 n3 c3 cc.cond)/\Hi (g6+1) V A1 3 3 c29/\Hi (g6+1) V A5 n5 c5 rows)/\Hi (g6+1) V A2 3 3 c29/\Hi (g6+1) V A6 n6 c6 orows)/\Hi (g6+1) V A7 n7 c7 xs)/\Hi (g6+1) V A8 n8 c8 ys) V/\(L 0=true->v100=.agg ([.string cc.name,.string cc.table,.int .i64 cc.kind,.slice A' n' c',.string cc.other,.slice A'' n'' c'',.int .i64 cc.low,.int .i64 cc.high,.slice A3 n3 c3,.int .i64 cc.ln,.int .i64 cc.ld,.int .i64 cc.mn,.int .i64 cc.md,.int .i64 cc.policy]:List Value).toArray)/\(L 1=true->v101=.agg ([.string ⟨#[114]⟩,.slice A1 3 3,.slice none 0 0,.slice A5 n5 c5]:List Value).toArray)/\(L 2=true->v102=.agg ([.string ⟨#[111]⟩,.slice A2 3 3,.slice none 0 0,.slice A6 n6 c6]:List Value).toArray)/\(L 3=true->v103=.agg ([.string ⟨#[114]⟩,.slice A1 3 3,.slice none 0 0,.slice A7 n7 c7]:List Value).toArray)/\(L 4=true->v104=.agg ([.string ⟨#[111]⟩,.slice A2 3 3,.slice none 0 0,.slice A8 n8 c8]:List Value).toArray)) ?_ ?_ ?_
         ·exact ⟨_,_,_,_,_,rfl,HG.out.bel HF.out (Below.refl _ _).drew,(λq=>by cases q),(λq=>by cases q),(λq=>by cases q),(λq=>by cases q),(λq=>by cases q)⟩
         ·intro L i a V hi hL hd hI
          obtain ⟨v100,v101,v102,v103,v104,rfl,hI⟩:=hI
          have hi:i<10:=hi
          have HI:=hide hI
          have HD:=hide hd
          clear hI hd hL
          obtain rfl|rfl|rfl|rfl|rfl|rfl|rfl|rfl|rfl|rfl:i=0\/i=1\/i=2\/i=3\/i=4\/i=5\/i=6\/i=7\/i=8\/i=9:=by omega
          ·obtain ⟨hG,p0,p1,p2,p3,p4⟩:=HI.out
           have HG1:=hide hG
           have P0:=hide p0
           have P1:=hide p1
           have P2:=hide p2
           have P3:=hide p3
           have P4:=hide p4
           clear hG p0 p1 p2 p3 p4
           obtain ⟨LTr,r0,r1,r2,r3,r4,r5,r6,r7,r8,r9,r10,r11,r12,r13⟩:=Blk.ats14 HG1.out.kc
           refine wpOp_step rfl (λK1 hK=>?_)
           have HK:=hide hK
           clear hK
           go_simp
           exact HK.out _ _ ⟨_,_,_,_,_,rfl,HG1.out,λ_=>rfl,P1.out,P2.out,P3.out,P4.out⟩
          ·obtain ⟨hG,p0,p1,p2,p3,p4⟩:=HI.out
           have HG1:=hide hG
           have P0:=hide p0
           have P1:=hide p1
           have P2:=hide p2
           have P3:=hide p3
           have P4:=hide p4
           clear hG p0 p1 p2 p3 p4
           obtain ⟨LTr,r0,r1,r2,r3⟩:=HG1.out.kr.ats4
           refine wpOp_step rfl (λK1 hK=>?_)
           have HK:=hide hK
           clear hK
           go_simp
           exact HK.out _ _ ⟨_,_,_,_,_,rfl,HG1.out,P0.out,λ_=>rfl,P2.out,P3.out,P4.out⟩
          ·obtain ⟨hG,p0,p1,p2,p3,p4⟩:=HI.out
           have HG1:=hide hG
           have P0:=hide p0
           have P1:=hide p1
           have P2:=hide p2
           have P3:=hide p3
           have P4:=hide p4
           clear hG p0 p1 p2 p3 p4
           obtain ⟨LTr,r0,r1,r2,r3⟩:=HG1.out.ko.ats4
           refine wpOp_step rfl (λK1 hK=>?_)
           have HK:=hide hK
           clear hK
           go_simp
           exact HK.out _ _ ⟨_,_,_,_,_,rfl,HG1.out,P0.out,P1.out,λ_=>rfl,P3.out,P4.out⟩
          ·obtain ⟨hG,p0,p1,p2,p3,p4⟩:=HI.out
           have HG1:=hide hG
           have P0:=hide p0
           have P1:=hide p1
           have P2:=hide p2
           have P3:=hide p3
           have P4:=hide p4
           clear hG p0 p1 p2 p3 p4
           obtain ⟨LTr,r0,r1,r2,r3⟩:=HG1.out.kx.ats4
           refine wpOp_step rfl (λK1 hK=>?_)
           have HK:=hide hK
           clear hK
           go_simp
           exact HK.out _ _ ⟨_,_,_,_,_,rfl,HG1.out,P0.out,P1.out,P2.out,λ_=>rfl,P4.out⟩
          ·obtain ⟨hG,p0,p1,p2,p3,p4⟩:=HI.out
           have HG1:=hide hG
           have P0:=hide p0
           have P1:=hide p1
           have P2:=hide p2
           have P3:=hide p3
           have P4:=hide p4
           clear hG p0 p1 p2 p3 p4
           obtain ⟨LTr,r0,r1,r2,r3⟩:=HG1.out.ky.ats4
           refine wpOp_step rfl (λK1 hK=>?_)
           have HK:=hide hK
           clear hK
           go_simp
           exact HK.out _ _ ⟨_,_,_,_,_,rfl,HG1.out,P0.out,P1.out,P2.out,P3.out,λ_=>rfl⟩
          ·obtain ⟨hG,p0,p1,p2,p3,p4⟩:=HI.out
           obtain rfl:=p0 (HD.out 0 (by simp))
           have HG1:=hide hG
           have P0:=hide p0
           have P1:=hide p1
           have P2:=hide p2
           have P3:=hide p3
           have P4:=hide p4
           clear hG p0 p1 p2 p3 p4
           obtain ⟨LTr,r0,r1,r2,r3,r4,r5,r6,r7,r8,r9,r10,r11,r12,r13⟩:=Blk.ats14 HG1.out.kc
           have rf0:=HG1.out.kc.fz 0
           have rf1:=HG1.out.kc.fz 1
           have rf2:=HG1.out.kc.fz 2
           have rf3:=HG1.out.kc.fz 3
           have rf4:=HG1.out.kc.fz 4
           have rf5:=HG1.out.kc.fz 5
           have rf6:=HG1.out.kc.fz 6
           have rf7:=HG1.out.kc.fz 7
           have rf8:=HG1.out.kc.fz 8
           have rf9:=HG1.out.kc.fz 9
           have rf10:=HG1.out.kc.fz 10
           have rf11:=HG1.out.kc.fz 11
           have rf12:=HG1.out.kc.fz 12
           have rf13:=HG1.out.kc.fz 13
           refine wpOp_step rfl (λK1 hK=>?_)
           have HK:=hide hK
           clear hK
           go_simp
           exact HK.out _ _ ⟨_,_,_,_,_,rfl,HG1.out.setK HO6.out HF.out rfl _ _ _ _ _ _ _ _ _ _ _ _ _ _,λ_=>rfl,P1.out,P2.out,P3.out,P4.out⟩
          ·obtain ⟨hG,p0,p1,p2,p3,p4⟩:=HI.out
           obtain rfl:=p1 (HD.out 1 (by simp))
           have HG1:=hide hG
           have P0:=hide p0
           have P1:=hide p1
           have P2:=hide p2
           have P3:=hide p3
           have P4:=hide p4
           clear hG p0 p1 p2 p3 p4
           obtain ⟨LTr,r0,r1,r2,r3⟩:=HG1.out.kr.ats4
           have rf0:=HG1.out.kr.fz 0
           have rf1:=HG1.out.kr.fz 1
           have rf2:=HG1.out.kr.fz 2
           have rf3:=HG1.out.kr.fz 3
           refine wpOp_step rfl (λK1 hK=>?_)
           have HK:=hide hK
           clear hK
           go_simp
           exact HK.out _ _ ⟨_,_,_,_,_,rfl,HG1.out.setR HO6.out HF.out rfl _ _ _ _,P0.out,λ_=>rfl,P2.out,P3.out,P4.out⟩
          ·obtain ⟨hG,p0,p1,p2,p3,p4⟩:=HI.out
           obtain rfl:=p2 (HD.out 2 (by simp))
           have HG1:=hide hG
           have P0:=hide p0
           have P1:=hide p1
           have P2:=hide p2
           have P3:=hide p3
           have P4:=hide p4
           clear hG p0 p1 p2 p3 p4
           obtain ⟨LTr,r0,r1,r2,r3⟩:=HG1.out.ko.ats4
           have rf0:=HG1.out.ko.fz 0
           have rf1:=HG1.out.ko.fz 1
           have rf2:=HG1.out.ko.fz 2
           have rf3:=HG1.out.ko.fz 3
           refine wpOp_step rfl (λK1 hK=>?_)
           have HK:=hide hK
           clear hK
           go_simp
           exact HK.out _ _ ⟨_,_,_,_,_,rfl,HG1.out.setO HO6.out HF.out rfl _ _ _ _,P0.out,P1.out,λ_=>rfl,P3.out,P4.out⟩
          ·obtain ⟨hG,p0,p1,p2,p3,p4⟩:=HI.out
           obtain rfl:=p3 (HD.out 3 (by simp))
           have HG1:=hide hG
           have P0:=hide p0
           have P1:=hide p1
           have P2:=hide p2
           have P3:=hide p3
           have P4:=hide p4
           clear hG p0 p1 p2 p3 p4
           obtain ⟨LTr,r0,r1,r2,r3⟩:=HG1.out.kx.ats4
           have rf0:=HG1.out.kx.fz 0
           have rf1:=HG1.out.kx.fz 1
           have rf2:=HG1.out.kx.fz 2
           have rf3:=HG1.out.kx.fz 3
           refine wpOp_step rfl (λK1 hK=>?_)
           have HK:=hide hK
           clear hK
           go_simp
           exact HK.out _ _ ⟨_,_,_,_,_,rfl,HG1.out.setX HO6.out HF.out rfl _ _ _ _,P0.out,P1.out,P2.out,λ_=>rfl,P4.out⟩
          ·obtain ⟨hG,p0,p1,p2,p3,p4⟩:=HI.out
           obtain rfl:=p4 (HD.out 4 (by simp))
           have HG1:=hide hG
           have P0:=hide p0
           have P1:=hide p1
           have P2:=hide p2
           have P3:=hide p3
           have P4:=hide p4
           clear hG p0 p1 p2 p3 p4
           obtain ⟨LTr,r0,r1,r2,r3⟩:=HG1.out.ky.ats4
           have rf0:=HG1.out.ky.fz 0
           have rf1:=HG1.out.ky.fz 1
           have rf2:=HG1.out.ky.fz 2
           have rf3:=HG1.out.ky.fz 3
           refine wpOp_step rfl (λK1 hK=>?_)
           have HK:=hide hK
           clear hK
           go_simp
           exact HK.out _ _ ⟨_,_,_,_,_,rfl,HG1.out.setY HO6.out HF.out rfl _ _ _ _,P0.out,P1.out,P2.out,P3.out,λ_=>rfl⟩
         ·intro L a V hL hI
          obtain ⟨v100,v101,v102,v103,v104,rfl,hI⟩:=hI
          have HG1:=hide hI.1
          clear hI hL
          go_wp2_with fail
          go_meet
          case rel=>exact HG1.out
        case rest=>
         have HG:=hide hcut
         clear hcut
         go_step
         go_step
         refine bodyPost_ret (v:=.tuple #[.agg ([.string cc.name,.string cc.table,.int .i64 cc.kind,.slice A' n' c',.string cc.other,.slice A'' n'' c'',.int .i64 cc.low,.int .i64 cc.high,.slice A3 n3 c3,.int .i64 cc.ln,.int .i64 cc.ld,.int .i64 cc.mn,.int .i64 cc.md,.int .i64 cc.policy]:List Value).toArray,.agg ([.string ⟨#[114]⟩,.slice A1 3 3,.slice none 0 0,.slice A5 n5 c5]:List Value).toArray,.agg ([.string ⟨#[111]⟩,.slice A2 3 3,.slice none 0 0,.slice A6 n6 c6]:List Value).toArray,.agg ([.string ⟨#[114]⟩,.slice A1 3 3,.slice none 0 0,.slice A7 n7 c7]:List Value).toArray,.agg ([.string ⟨#[111]⟩,.slice A2 3 3,.slice none 0 0,.slice A8 n8 c8]:List Value).toArray]) (results_c5 (cs:=(chkCells cc A' n' c' A'' n'' c'' A3 n3 c3)) (r1:=[.string ⟨#[114]⟩,.slice A1 3 3,.slice none 0 0,.slice A5 n5 c5]) (r2:=[.string ⟨#[111]⟩,.slice A2 3 3,.slice none 0 0,.slice A6 n6 c6]) (r3:=[.string ⟨#[114]⟩,.slice A1 3 3,.slice none 0 0,.slice A7 n7 c7]) (r4:=[.string ⟨#[111]⟩,.slice A2 3 3,.slice none 0 0,.slice A8 n8 c8]) rfl _ _ g1 g2 g3 g4 g5 _ _ rfl rfl rfl rfl rfl HG.out.kc.all HG.out.kr.all HG.out.ko.all HG.out.kx.all HG.out.ky.all Tryz.underlying27 rfl (by kernel_rfl) Tryz.underlying32 rfl rfl rfl rfl rfl (by kernel_rfl)) rfl ?_
         exact ⟨⟨cc,A',n',c',A'',n'',c'',A3,n3,c3,A1,A2,A5,n5,c5,A6,n6,c6,A7,n7,c7,A8,n8,c8,rows,orows,xs,ys,rfl,HCM.out,HG.out.f.1.1.1.1.1.inn,HG.out.f.1.1.1.1.2.1.inn,HG.out.f.1.1.1.1.2.2.inn,HG.out.f.1.1.1.2.1.inn,HG.out.f.1.1.2.1.inn,HG.out.f.1.1.1.2.2.inn,HG.out.f.1.1.2.2.inn,HG.out.f.1.2.inn,HG.out.f.2.inn,Tb.of (by decide) HTR.out,Tb.of (by decide) HTO.out,HMX.out,HMY.out⟩,HG.out.below⟩
end Go.Proofs.YtggejcekmehocaaGreatDoor
