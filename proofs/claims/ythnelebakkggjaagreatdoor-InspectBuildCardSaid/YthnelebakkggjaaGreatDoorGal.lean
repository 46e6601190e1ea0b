/-
  (*warehouseworld.Numbers).Next; Instants, Value, Row. slices.Clone of values, partition.copied, byDay: the rows of each day, copied. Package bag: put, done, both. warehouseref22.CopyEntries.
-/
import Derived.Test.YthnelebakkggjaaGreatDoorGak
import Derived.Test.YthnelebakkggjaaGreatDoorGrp
namespace Go.Proofs.YthnelebakkggjaaGreatDoor
set_option maxHeartbeats 4000000
set_option maxRecDepth 100000
open Go.RowKit
set_option linter.unusedSimpArgs false
set_option linter.unusedVariables false
structure Num (w:World) (gb:Nat) (A:Option Addr) (n c:Nat) (l:List Int) (i:Nat):Prop where
 c0:w.cell? ⟨gb,0,none⟩=some (.slice A n c)
 c1:w.cell? ⟨gb,1,none⟩=some (.int .i64 (i:Int))
 blk:gW w gb 64 2
 lst:Sl w (λk=>k<gb) A n c l
 le:i<=n
 nn:n<=1048576
theorem Num.lt {w:World}{gb:Nat}{A:Option Addr}{n c:Nat}{l:List Int}{i:Nat}(h:Num w gb A n c l i):gb<w.heap.size:=h.blk.lt
theorem Num.inn {w:World}{gb:Nat}{A:Option Addr}{n c:Nat}{l:List Int}{i:Nat}(h:Num w gb A n c l i):In w A n c l:=Sl.mono (λk a=>Nat.lt_trans a h.lt) h.lst
theorem Num.b {w w':World}{gb:Nat}{A:Option Addr}{n c:Nat}{l:List Int}{i:Nat}(h:Num w gb A n c l i)(hb:Below w.heap.size w w'):Num w' gb A n c l i:=
 ⟨eG hb h.lt h.c0,eG hb h.lt h.c1,h.blk.b hb,h.lst.keep ((Same.b hb).sub λk a=>Nat.lt_trans a h.lt),h.le,h.nn⟩
theorem Num.grown {w w':World}{gb:Nat}{A:Option Addr}{n c:Nat}{l:List Int}{i:Nat}{row:Option Nat}(h:Num w gb A n c l i)(g:w.grownBy w' row)(m: ∀k,row=some k->gb<k):Num w' gb A n c l i:=by
 have hs: ∀k,k<=gb->w'.heap[k]?=w.heap[k]?:=λk b=>g.block k (Nat.lt_of_le_of_lt b h.lt) λe=>by have:=m k e.symm;omega
 obtain⟨d,f,j⟩:=h.blk;exact⟨(World.cell?_of_block (a:=⟨gb,0,none⟩) (hs gb IK)).trans h.c0,(World.cell?_of_block (a:=⟨gb,1,none⟩) (hs gb IK)).trans h.c1,⟨d,(hs gb IK).trans f,j⟩,h.lst.keep λk b=>hs k (Nat.le_of_lt b),h.le,h.nn⟩
theorem Num.made (w:World)(A:Option Addr)(n c:Nat)(l:List Int)(h:In w A n c l)(a:n<=1048576):Num (w.alloc (.cells #[.slice A n c,.int .i64 0] 64)) w.heap.size A n c l 0:=
 ⟨wH (heap_alloc_new w _) 0 _ rfl,wH (heap_alloc_new w _) 1 _ rfl,gW.made w _ _ 2 rfl,h.keep (Same.b eB),Nat.zero_le _,a⟩
theorem eY {w:World}{b o:Nat}{v:Value}:w.grownBy (w.setCell ⟨b,o,none⟩ v) (some b):=
 ⟨rfl,rfl,rfl,by simp,λk _ a=>Below.heap_setCell _ _ _ k (λe=>a (by rw[show k=b from e]))⟩
theorem kC (w:World)(gb:Nat)(A:Option Addr)(n c:Nat)(l:List Int)(i:Nat)(h:Num w gb A n c l i)(m:Int)(D:m<=1099511627776):
  Calls Tryz.prog 41 #[.pointer (some ⟨gb,0,none⟩),.int .i64 m] w
   λe w'=>(∃v F,e=.returned (.int .i64 v)/\0<=v/\(1<=m->v<m)/\Num w' gb A n c l F)/\w.grownBy w' (some gb):=by
 have c0:=h.c0;have c1:=h.c1;have f1:=h.blk.frozen 1;have P:=h.nn;have H:=Hm h;clear h;by_cases hi:n<=i
 ·have q:decide (n<=i)=true:=by simp;omega
  go_enter Tryz.func41,Tryz.ntmps41;go_wp2;go_quiet (fail);go_wp2;all_goals(try(exfalso;go_light;simp_all;done));go_ret;exact⟨⟨0,i,rfl,Ho,Ho,H.o.b (below_drewN IJ _)⟩,Below.grows (below_drewN IJ _) _⟩
 have q:decide (n<=i)=false:=by simp;omega
 by_cases O:m<1
 ·have J:decide (m<1)=true:=by simp;omega
  go_enter Tryz.func41,Tryz.ntmps41;go_wp2;go_quiet (fail);go_wp2;all_goals(try(exfalso;go_light;simp_all;done));go_ret;exact⟨⟨0,i,rfl,Ho,Ho,H.o.b (below_drewN IJ _)⟩,Below.grows (below_drewN IJ _) _⟩
 have J:decide (m<1)=false:=by simp;omega
 obtain⟨b,off,x,rfl,M,K,s,t⟩:=H.o.inn.int (k:=i) Ho;have Q:IntKind.i64.wrap ((i:Int)+1)=(i:Int)+1:=IntWalk.i64_in _ Ho;have R:IntKind.i64.wrap ((i:Int)+1-1)=(i:Int):=by rw[show(i:Int)+1-1=i by omega];exact IntWalk.i64_in _ Ho
 have W:IntKind.i64.wrap (i:Int)=(i:Int):=IntWalk.i64_in _ Ho;have S:(i:Int)<(n:Int):=by omega
 have T:(0:Int)<=(i:Int):=by omega
 have U:i<n:=by omega
 have E:b≠gb:=λe=>by
  have C:=H.o.lst.2.2.2.2 Ho;obtain⟨L,X,f,N,_⟩:=C;injection f with f;injection f with t e2;subst t;omega
 have G:0<=x % m:=Int.emod_nonneg _ Ho;have I:x % m<m:=Int.emod_lt_of_pos _ Ho;go_enter Tryz.func41,Tryz.ntmps41;go_wp2;go_quiet (fail);go_wp2;obtain⟨a,d⟩: ∃a,a=(w.drewN nq).setCell ⟨gb,1,none⟩ (.int .i64 ((i:Int)+1)):=⟨_,rfl⟩;have p:a.cell? ⟨gb,0,none⟩=some (.slice (some ⟨b,off,none⟩) n c):=by rw[d];exact eD c0 (.inr Ho)
 have r:a.cell? ⟨gb,1,none⟩=some (.int .i64 ((i:Int)+1)):=by rw[d];exact iY (w:=w.drewN nq) c1
 have B:a.cell? ⟨b,off+i,none⟩=some (.int .i64 x):=by rw[d];exact eD s (.inl E)
 have g:w.grownBy a (some gb):=by rw[d];exact(Below.grows (below_drewN (Below.refl _ w) nq) _).trans eY
 have u: ∀k,k<gb->a.heap[k]?=w.heap[k]?:=λk j=>g.block k (Nat.lt_trans j H.o.lt) (λe=>by injection e with e;omega);have z:Hl (Num a gb (some ⟨b,off,none⟩) n c l (i+1)):=Hm ⟨p,by simpa using r,by rw[d];exact(H.o.blk.b (below_drewN (Below.refl _ w) nq)).set _ _ _,H.o.lst.keep λk j=>u k j,Ho,H.o.nn⟩;have y:=Hm g;rw[<-d];clear d g u c0 c1 s f1;go_region_held3 (λV=>V.cell? ⟨gb,0,none⟩=some (.slice (some ⟨b,off,none⟩) n c)/\V.cell? ⟨gb,1,none⟩=some (.int .i64 ((i:Int)+1))/\V.cell? ⟨b,off+i,none⟩=some (.int .i64 x)) (first|exact⟨p,r,B⟩) (first|(go_at_call 23;refine(nZ x m Ho D _).mono ?_;rintro e w' ⟨rfl,rfl⟩));go_wp2;go_ret;exact⟨⟨x % m,i+1,rfl,G,λ_=>I,z.o.b (IJ).drew⟩,y.o.trans (Below.grows (IJ).drew _)⟩
def Off (w:World){α:Type}[Rep α](gb:Nat)(A:Option Addr)(n c:Nat)(xs:List α):Prop:=Sl w (λk=>k<w.heap.size/\k≠gb) A n c xs
section
variable {α:Type}[Rep α]{w w':World}{gb:Nat}{A:Option Addr}{n c:Nat}{xs:List α}
theorem Off.inn (h:Off w gb A n c xs):In w A n c xs:=Sl.mono (λk a=>a.1) h
theorem Off.grown (h:Off w gb A n c xs)(b:w.grownBy w' (some gb)):Off w' gb A n c xs:=
 (h.keep (λk a=>b.block k a.1 λe=>a.2 (by injection e))).mono λk a=>⟨Nat.lt_of_lt_of_le a.1 b.size,a.2⟩
theorem Off.b (h:Off w gb A n c xs)(hb:Below w.heap.size w w'):Off w' gb A n c xs:=h.grown (Below.grows hb _)
end
theorem jd {B gb:Nat}{a w w':World}(h:Below B a w)(c:w.grownBy w' (some gb))(b:B<=w.heap.size)(d:B<=gb):Below B a w':=h.grown c b λk e=>by injection e with e;omega
theorem yL: ∀ks:List Int,ks.flatMap Flat.cs=ks.map (Value.int .i64)
 | []=>rfl
 |x::l=>by rw[List.flatMap_cons,List.map_cons,yL l];rfl
theorem vL (w:World):Calls Tryz.prog 110 #[] w λe w'=>(∃l,e=.returned (.slice (some ⟨w.heap.size,0,none⟩) 16 16)/\In w' (some ⟨w.heap.size,0,none⟩) 16 16 l/\ ∀x∈l,(0:Int)<=x/\x<=575999999)/\Below w.heap.size w w':=by
 go_enter Tryz.func110,Tryz.ntmps110;go_wp2;go_loopw [2] (λi wr=> ∃(k:Nat) (a:Array Value),k<=16/\i=.int .i64 k/\wr.heap[w.heap.size]?=some (.cells a 3 (0,0))/\a.size=16/\(∀j,j<16-> ∃x:Int,a[j]?=some (.int .i64 x)/\0<=x/\x<=153000/\(k<=j->x<=9000))/\Below w.heap.size w wr) (λi _=>16-(intOf i).toNat)
 case atStart=>
  refine⟨0,_,Ho,rfl,heap_alloc_new w _,rfl,λj b=>?_,eB⟩;have:j=0\/j=1\/j=2\/j=3\/j=4\/j=5\/j=6\/j=7\/j=8\/j=9\/j=10\/j=11\/j=12\/j=13\/j=14\/j=15:=by omega
  rcases this with rfl|rfl|rfl|rfl|rfl|rfl|rfl|rfl|rfl|rfl|rfl|rfl|rfl|rfl|rfl|rfl<;>exact⟨_,rfl,by decide,by decide,λ_=>by decide⟩
 case round=>
  obtain⟨k,a,L,rfl,f,n,s,hb⟩:=hrel;have g:=Hm s;have p:=Hm hb;have r:=Hm f;have m:=Hm n;clear s hb;by_cases H:k<16
  ·obtain⟨x,d,O,_,z⟩:=g.o k H;have z:=z IK;have M:(0:Int)<=(k:Int):=by omega
   have N:(k:Int)<16:=by omega
   have c0:wr.cell? ⟨w.heap.size,k,none⟩=some (.int .i64 x):=by rw[cell_of_row wr w.heap.size k a 3 (0,0) f];exact d
   have K:wr.frozen? ⟨w.heap.size,k,none⟩=false:=frozen_of_row wr w.heap.size k a 3 f;have q:IntKind.i64.wrap (x+144000)=x+144000:=IntWalk.i64_in _ Ho;clear f n d;go_wp2;go_roundw
   case rel=>
    refine⟨k+1,a.setIfInBounds k (.int .i64 (x+144000)),Ho,by go_num,by simp[World.setCell,Array.getElem?_modify,r.o],by simp[m.o],λj b=>?_,p.o.setCell IK _⟩;by_cases t:k=j
    ·subst t;exact⟨x+144000,by rw[Array.getElem?_setIfInBounds_self];simp[m.o,b],Ho,Ho,λh=>by omega⟩
    ·obtain⟨y,c,A,B,J⟩:=g.o j b;exact⟨y,by rw[Array.getElem?_setIfInBounds_ne t];exact c,A,B,λh=>J Ho⟩
   case measure=>simp[intOf];omega
  ·have C:Hl (a.toList=(a.toList.map intOf).map (Value.int .i64)):=Hm (by
    apply List.ext_getElem?;intro j;rw[List.getElem?_map,List.getElem?_map,Array.getElem?_toList];by_cases b:j<16
    ·obtain⟨y,c,_⟩:=g.o j b;rw[c];rfl
    ·rw[Array.getElem?_eq_none Ho];rfl)
   have D:Hl (∀x∈a.toList.map intOf,(0:Int)<=x/\x<=575999999):=Hm (by
    intro x d;obtain⟨v,I,rfl⟩:=List.mem_map.1 d;obtain⟨j,b,rfl⟩:=List.getElem_of_mem I;rw[Array.length_toList,m.o]at b;obtain⟨y,c,A,B,_⟩:=g.o j b;rw[Array.getElem?_eq_getElem Ho]at c;injection c with c;rw[Array.getElem_toList,c];show 0<=y/\y<=_;omega)
   have E:k=16:=by omega
   subst E;clear f n;go_wp2;go_ret;have F:=C.o;have u:=D.o;have G:(a.toList.map intOf).length=16:=by simp[m.o]
   generalize a.toList.map intOf=l at*;refine⟨⟨l,rfl,mI r.o ?_ G (by decide),u⟩,p.o⟩;have h:=pW wr (λk=>k<wr.heap.size) (xs:=l) (λx d=>by have:=u x d;exact⟨Ho,Ho⟩);rw[yL]at h;rw[F];exact h
theorem wJ (w:World)(A:Option Addr)(n c:Nat)(xs:List Val)(d:In w A n c xs)(J:n<=1048576):
  Calls Tryz.prog 37 #[.slice A n c] w λe w'=>(∃A' c',e=.returned (.slice A' n c')/\Sl w' (New w w' 67) A' n c' xs)/\Below w.heap.size w w':=by
 obtain⟨G,hi,D,E,F⟩:=info_parts oO;have x:=Hm d.len;have K:=λ(W:World) (a:Option Addr) (l c:Nat)=>Lib.run_eql_slice_nil (P:=Tryz.prog) W 52 67 a l c 0 0 Tryz.underlying52;cases A with
 |none=>
  have r:c=0:=d.2.2.2.1 rfl;have i:n=0:=by have:=d.2.1;omega
  subst r i;have t:xs=[]:=List.eq_nil_of_length_eq_zero d.1;subst t;go_enter Tryz.func37,Tryz.ntmps37;go_wp2;go_ret;exact⟨⟨_,_,rfl,Sl.nil_⟩,IJ⟩
 |some q=>
  obtain⟨m,f,p⟩:=Sl.cells (d.b (eB (o:=.cells #[] 67)));have i:=rM f;have f:=Hm f;go_enter Tryz.func37,Tryz.ntmps37;go_wp2_with (at_builtin;refine lI _ rfl (.tmp 5) (.tmp 6) 52 rfl w.heap.size 67 G _ 3 32 Tryz.underlying52 hi D E F rfl (by decide) (.slice (some ⟨w.heap.size,0,none⟩) 0 0) 0 [] rfl (World.ownsRow_made w #[] 0 IK (by decide) rfl) (some q) n c m rfl (λh=>by cases h) p i (by simp only[maxLen];omega) Ho II ?_;intro H k y v I);have s:Below w.heap.size w k:=(eB).grown v II (λj e=>by simp[Value.ownBlock]at e;omega);have z:k.ownsRow w.heap.size 67 3 H n m:=by simpa using y
  obtain⟨A',c',rfl,B,_⟩:=jZ (S:=λ_=>False) (T:=New w k 67) z (oC f.o) (λ_ h=>h.elim) x.o (λg u C=>⟨u,C⟩);go_ret;exact⟨⟨A',c',rfl,B⟩,s⟩
theorem jY:Elem Tryz.prog 30 55 2 32:=BJ _ Tryz.underlying30 q8 rfl (by decide)
theorem ME {w w':World}{B:Nat}{O:Nat->Prop}{T:List TypeId}{t:TypeId}(a:B<=w.heap.size)(b:t∈T){k:Nat}(h:New w w' t k):BS B O T w' k:=.inr ⟨Nat.le_trans a h.1,t,b,h.2⟩
abbrev OE (B:Nat)(w:World)(v:Value)(zs:List Ent):Prop:=OL 55 B (λ_=>False) [67] w v zs
theorem fw.ol {w w':World}{v:Value}{zs:List Ent}(h:fw w w' v zs)(hb:w.heap.size<=w'.heap.size):OE w.heap.size w' v zs:=by
 obtain⟨b,c,d⟩:=h;exact⟨⟨b,c,d.mono λk a=>.inr ⟨a.1,_,by simp,a.2⟩⟩,hb⟩
def rY (zs:List Ent)(row:List Val)(k:Int):Bool×List Ent:=if k < -65536\/65536<k then(false,[]) else(true,if k=0 then zs else zs++[⟨row,k⟩])
theorem vU (W:World)(B:Nat)(v:Value)(zs:List Ent)(f:OE B W v zs)(A:Option Addr)(n c:Nat)(row:List Val)(E:In W A n c row)(I:n<=4096)(k:Int)(j:jP k)(H:zs.length<1048576):
  Calls Tryz.prog 79 #[v,.slice A n c,.int .i64 k] W λe w'=>(∃s,e=.returned (.tuple #[s,.bool (rY zs row k).1])/\OE B w' s (rY zs row k).2)/\W.grownBy w' v.ownBlock/\Below B W w':=by
 have w:=Hm f;by_cases d:k < -65536
 ·have a:rY zs row k=(false,[]):=if_pos (.inl d);rw[a];have m:decide (k < -65536)=true:=by simpa using d
  go_enter Tryz.func79,Tryz.ntmps79;go_wp2;all_goals(try(exfalso;go_light;simp_all;done));go_ret2;exact⟨⟨_,rfl,OL.nil f.base⟩,World.grownBy.refl _ _,IJ⟩
 by_cases g:65536<k
 ·have a:rY zs row k=(false,[]):=if_pos (.inr g);rw[a];have m:decide (k < -65536)=false:=by simpa using d
  have C:decide (65536<k)=true:=by simpa using g
  go_enter Tryz.func79,Tryz.ntmps79;go_wp2;all_goals(try(exfalso;go_light;simp_all;done));go_ret2;exact⟨⟨_,rfl,OL.nil f.base⟩,World.grownBy.refl _ _,IJ⟩
 have m:decide (k < -65536)=false:=by simpa using d
 have C:decide (65536<k)=false:=by simpa using g
 by_cases h:k=0
 ·have a:rY zs row k=(true,zs):=by rw[rY,if_neg Ho,if_pos h]
  rw[a];clear a d g;subst h;go_enter Tryz.func79,Tryz.ntmps79;go_wp2;all_goals(try(exfalso;go_light;simp_all;done));go_ret2;exact⟨⟨_,rfl,w.o⟩,World.grownBy.refl _ _,IJ⟩
 have a:rY zs row k=(true,zs++[⟨row,k⟩]):=by rw[rY,if_neg Ho,if_neg h]
 rw[a];have G:(k != 0)=true:=by simpa using h
 clear a d g;go_enter Tryz.func79,Tryz.ntmps79;go_wp2_with fail;refine(wJ _ A n c row E Ho).mono ?_;rintro e K ⟨⟨F,c1,rfl,hs⟩,i⟩;have z:=Hm (hs.mono λk j=>ME (B:=B) (O:=λ_=>False) (T:=[67]) f.base II j);have x:=Hm (f.b i);have l:=Hm i;clear hs i;go_wp2_with (at_builtin;refine gD _ rfl _ _ _ rfl jY (by decide) _ _ rfl x.o rfl rfl ⟨row,k⟩ ⟨_,_,_,rfl,z.o,j⟩ (by simp only[maxLen];omega) Ho ?_;intro J L r p q D);have y:=Hm r;have u:=Hm ((Below.grows l.o v.ownBlock).trans q);have t:=Hm ((l.o.mono f.base).trans p);clear r p q D;go_wp2;all_goals(try(exfalso;go_light;simp_all;done));go_ret2;exact⟨⟨_,rfl,y.o⟩,u.o,t.o⟩
theorem IR (W:World)(v:Value)(n c:Nat)(A:Option Addr)(b:n<=9223372036854775807):
  Calls Tryz.prog 80 #[.slice A n c] W λe w'=>e=.returned (if 4096<n then .tuple #[.slice none 0 0,.int .i64 2] else .tuple #[.slice A n c,.int .i64 0])/\Below W.heap.size W w':=by
 by_cases h:4096<n
 ·rw[if_pos h];have a:(4096:Int)<(n:Int):=by omega
  go_enter Tryz.func80,Tryz.ntmps80;go_wp2;go_ret2;exact⟨rfl,IJ⟩
 ·rw[if_neg h];have a:¬(4096:Int)<(n:Int):=by omega
  go_enter Tryz.func80,Tryz.ntmps80;go_wp2;go_ret2;exact⟨rfl,IJ⟩
def pg (xs a:List Ent):Int:=if fA xs≠0 then fA xs else fA a
theorem AJ (w:World)(A:Option Addr)(n c:Nat)(xs:List Ent)(p:In w A n c xs)(k:Option Addr)(t c2:Nat)(a:List Ent)(s:In w k t c2 a):
  Calls Tryz.prog 45 #[.slice A n c,.slice k t c2] w λe w'=>e=.returned (.int .i64 (pg xs a))/\Below w.heap.size w w':=by
 have g:=Hm (show pg xs a=if fA xs≠0 then fA xs else fA a from rfl);generalize pg xs a=r at*;obtain⟨E,i⟩: ∃E,fA xs=E:=⟨_,rfl⟩;have u:=Hm i;rw[i]at g;clear i;go_enter Tryz.func45,Tryz.ntmps45;have v:=Hm p;clear p;have h:=Hm s;clear s;go_wp2_with fail;refine(xW _ _ _ _ xs v.o).mono ?_;rintro e y ⟨rfl,j⟩;have h:=Hm (h.o.b j);have l:=Hm j;clear j;rw[u.o];by_cases f:E=0
 ·have d:=g.o;rw[if_neg (by simpa using f)]at d;subst f;go_wp2_with fail;refine(xW _ _ _ _ a h.o).mono ?_;rintro e z ⟨rfl,m⟩;have x:=Hm (eu l.o m);clear m;go_wp2;go_ret;exact⟨eQ d.symm,x.o⟩
 ·have d:=g.o;rw[if_pos f]at d;subst d;have q:(r != 0)=true:=by simpa using f
  go_wp2;all_goals(try(exfalso;go_light;simp_all;done));go_ret;exact⟨rfl,l.o⟩
theorem vF (w:World)(A:Option Addr)(n c:Nat)(xs:List Ent)(B:In w A n c xs)(hn:n<=1048576)(ap: ∀x∈xs,x.row.length<=4096):
  Calls Tryz.prog 21 #[.slice A n c] w
   λe w'=>(∃v,e=.returned v/\fw w w' v xs)/\Below w.heap.size w w':=by
 obtain⟨i0,hi,ay,az,aA⟩:=info_parts q8;obtain⟨i1,hj,av,aw,ax⟩:=info_parts oO;have aB:=B.le;go_enter Tryz.func21,Tryz.ntmps21;go_wp2;go_loopw [3,4] (λo i wr=> ∃k:Nat,k<=n/\i=.int .i64 k/\fw w wr o (xs.take k)/\Below w.heap.size w wr)
  (λ_ i _=>n-(RowKit.intOf i).toNat)
 case atStart=>exact⟨0,Nat.zero_le _,rfl,fw.nil _ _,IJ⟩
 case round=>
  obtain⟨k,d,rfl,V,hb⟩:=hrel;have M:=Hm V;clear V;by_cases an:k<n
  ·obtain⟨l,off,x,rfl,a,O,t,m,Q,q,r,s,e3⟩:=B.ent an;replace q:=eG hb a q;replace r:=eG hb a r;have aC:=Nat.lt_of_lt_of_le a hb.size;obtain⟨m1,m2⟩:=e3;have aq:x.row.length<=4096:=ap x (List.mem_of_getElem? (iI O.o).1);have k0:(0:Int)<=(k:Int):=by omega
   have k1:(k:Int)<(n:Int):=by omega
   obtain⟨cs,z,R⟩:=M.o;have C:Hl ((xs.take k).length=k):=Hm (by rw[List.length_take,B.len];omega);rw[C.o]at z;have N:=Hm z;have ar:=hb.size;have af:=Hm (λg (h:u3.ownBlock=some g)=>(z.lt g h).1);obtain⟨rs,J,L⟩:=Sl.cells s;have aj:t=none->m=0:=λh=>by have:=s.2.2.2.1 h;have:=s.2.1;omega
   have aD:m<=4096:=by rw[<-s.len];exact aq
   have ai:=rM J;have ah:Hl (∀W,Below w.heap.size w W->Src W 3 t m rs):=Hm (λW hW=>⟨L.1,λh0=>by
    obtain⟨P,o',e,hc⟩:=L.2 h0;refine⟨P,o',e,λj u hu=>?_⟩;have U:=hc j u hu;exact(hW.cell (p:=⟨P,o'+j,none⟩) (block_lt_of_cell U)).trans U⟩)
   have ae:=Hm J;have ab:=Hm R;clear z R L J;go_wp2;go_region_held3 (λw'=>w'.cell? ⟨l,off+k*2,none⟩=some (.slice t m Q)/\w'.cell? ⟨l,off+k*2+1,none⟩=some (.int .i64 x.count)) (first|exact⟨q,r⟩|exact⟨(F.cell (p:=⟨l,off+k*2,none⟩) a).trans q,(F.cell (p:=⟨l,off+k*2+1,none⟩) a).trans r⟩|exact⟨(E.cell (p:=⟨l,off+k*2,none⟩) a).trans q,(E.cell (p:=⟨l,off+k*2+1,none⟩) a).trans r⟩|go_keep) (first|(refine iL _ rfl (.const (.slice none 0 0)) (.tmp 16) 52 rfl w.heap.size 67 i1 _ 3 32 Tryz.underlying52 hj av aw ax rfl (by decide) (.slice none 0 0) 0 [] rfl (World.ownsRow_nil _ _ _ _) t m Q rs (by simp[Act.eval,Act.put]) aj (by exact ah.o _ ((hb.drew))) ai (by simp only[maxLen];omega) Ho (by simp;omega) ?_;intro v0 f Y H ak;have E:Below w.heap.size wr f:=((Below.refl w.heap.size wr).drew).grown H (by simp;omega) (by simp[Value.ownBlock]);obtain⟨A0,c0,rfl,K,_⟩:=jZ (S:=λ_=>False) (T:=New w f 67) Y (oC ae.o) (λ_ h=>h.elim) (by rw[s.len];omega) (λg G ht=>⟨G,ht⟩);rw[Nat.zero_add]at K;have ag:=Hm K;have y:Below wr.heap.size wr f:=((Below.refl wr.heap.size wr).drew).grown H II (by simp[Value.ownBlock]);have au:w.heap.size<=f.heap.size:=Nat.le_trans ar y.size;have D:=Hm (vR N.o (λg G=>y.block g (N.o.lt g G).2));have aa:=Hm ((ab.o.keep ((Same.b y).sub λk d=>d.2.lt)).mono λk (d:New w wr 67 k)=>(⟨d.1,d.2.b y⟩:New w f 67 k));clear K Y H ak)|(refine iL _ rfl (.tmp 11) (.tmp 24) 30 rfl w.heap.size 55 i0 _ 2 32 Tryz.underlying30 hi ay az aA rfl (by decide) u3 k cs (by simp[Act.eval,Act.put]) (by first|exact qh (D.o.alloc _)|exact D.o.alloc _) (some ⟨f.heap.size,0,none⟩) 1 1 [.slice A0 m c0,.int .i64 x.count] (by simp[Act.eval,Act.put]) (by intro h;cases h) (by exact qF (by simp[go_sem]) (by simp[go_sem])) pJ (by simp only[maxLen];omega) Ho (by simp;omega) ?_;intro v1 w1 Z I al;have F:Below w.heap.size wr w1:=(E.trans ((Below.refl w.heap.size f).alloc au _)).grown I (by simp;omega) af.o));have X:fw w w1 v1 (xs.take k++[x]):=fw.add (by rw[C.o];exact D.o) aa.o ag.o ⟨m1,m2⟩ (λk d ao=>(I.block k (by simp;omega) (λe=>ao e.symm)).trans (Below.heap_alloc _ _ _ d)) (by rw[C.o];exact Z);have ac:=Hm X;have am:=hb.trans F;clear X Z I al;go_wp2;go_roundw
   case rel=>exact⟨k+1,Ho,by go_num,by rw[gJ O.o];exact ac.o,am⟩
   case measure=>simp[RowKit.intOf];omega
  ·have ad:Hl (fw w wr u3 xs):=Hm (by
    have h:=M.o;rw[List.take_of_length_le (by rw[B.len];omega)]at h;exact h)
   go_wp2;go_ret;exact⟨⟨_,rfl,ad.o⟩,hb⟩
end Go.Proofs.YthnelebakkggjaaGreatDoor
