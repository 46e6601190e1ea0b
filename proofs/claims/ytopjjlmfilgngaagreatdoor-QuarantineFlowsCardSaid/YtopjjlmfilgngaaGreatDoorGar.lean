/-
  slices.Clone of values, partition.copied, byDay: the rows of each day, copied. Package bag: put, done, both. Package bag: merge, Add. (Printed by gen_bagm.py.) Plain law of bag.sum: a sorted list, its runs of equal rows summed. No program is in sight. (*warehouseworld.Numbers).Next; Instants, Value, Row. bag.Add, warehouseref6.Add.
-/
import Derived.Test.YtopjjlmfilgngaaGreatDoorGan
import Derived.Test.YtopjjlmfilgngaaGreatDoorGrp
import Derived.Test.YtopjjlmfilgngaaGreatDoorGae
import Derived.Test.YtopjjlmfilgngaaGreatDoorGaj
import Derived.Test.YtopjjlmfilgngaaGreatDoorGad
import Derived.Test.YtopjjlmfilgngaaGreatDoorGak
namespace Go.Proofs.YtopjjlmfilgngaaGreatDoor
set_option maxHeartbeats 1000000
set_option maxRecDepth 100000
open Go.RowKit
set_option linter.unusedSimpArgs false
set_option linter.unusedVariables false
theorem vK (w:World)(A:Option Addr)(n c:Nat)(xs:List Val)(hx:In w A n c xs)(hn:n<=1048576):
  Calls Tryz.prog 37 #[.slice A n c] w λe w'=>(∃A' c',e=.returned (.slice A' n c')/\Sl w' (New w w' 36) A' n c' xs)/\Below w.heap.size w w':=by
 obtain ⟨i0,hi,hz0,hz1,hz2⟩:=info_parts mF;have hlen:=hide hx.len;have kn:=λ(W:World) (a:Option Addr) (l c:Nat)=>Lib.run_eql_slice_nil (P:=Tryz.prog) W 23 36 a l c 0 0 Tryz.underlying23;cases A with
 |none=>
  have h0:c=0:=hx.2.2.2.1 rfl;have h1:n=0:=by have:=hx.2.1;omega
  subst h0 h1;have he:xs=[]:=List.eq_nil_of_length_eq_zero hx.1;subst he;go_enter Tryz.func37,Tryz.ntmps37;go_wp2;go_ret;exact ⟨⟨_,_,rfl,Sl.nil_⟩,Below.refl _ _⟩
 |some ad=>
  obtain ⟨cs,HC,HS⟩:=Sl.cells (hx.below (ae (o:=.cells #[] 36)));have h1:=nY HC;have HC:=hide HC;go_enter Tryz.func37,Tryz.ntmps37;go_wp2_with (at_builtin;refine ed _ rfl (.tmp 5) (.tmp 6) 23 rfl w.heap.size 36 i0 _ 3 32 Tryz.underlying23 hi hz0 hz1 hz2 rfl (by decide) (.slice (some ⟨w.heap.size,0,none⟩) 0 0) 0 [] rfl (World.ownsRow_made w #[] 0 (Nat.le_refl _) (by decide) rfl) (some ad) n c cs rfl (λh=>by cases h) HS h1 (by simp only[maxLen];omega) (by omega) (by simp) ?_;intro v1 w3 hown1 hg1 nE);have hb3:Below w.heap.size w w3:=(ae).grown hg1 (by simp) (λj e=>by simp[Value.ownBlock]at e;omega);have hown2:w3.ownsRow w.heap.size 36 3 v1 n cs:=by simpa using hown1
  obtain ⟨A',c',rfl,hsl,_⟩:=dX (S:=λ_=>False) (T:=New w w3 36) hown2 (jO HC.out) (λ_ h=>h.elim) hlen.out (λg hg ht=>⟨hg,ht⟩);go_ret;exact ⟨⟨A',c',rfl,hsl⟩,hb3⟩
theorem vM:Elem Tryz.prog 27 50 2 32:=mM _ Tryz.underlying27 lX rfl (by decide)
abbrev OE (B:Nat)(w:World)(v:Value)(zs:List Ent):Prop:=OL 50 B (λ_=>False) [36] w v zs
theorem ax.ol {w w':World}{v:Value}{zs:List Ent}(h:ax w w' v zs)(hb:w.heap.size<=w'.heap.size):OE w.heap.size w' v zs:=by
 obtain ⟨cs,h1,h2⟩:=h;exact ⟨⟨cs,h1,h2.mono λk hk=>.inr ⟨hk.1,_,by simp,hk.2⟩⟩,hb⟩
def JG (zs:List Ent)(row:List Val)(k:Int):Bool×List Ent:=if k < -65536\/65536<k then (false,[]) else (true,if k=0 then zs else zs++[⟨row,k⟩])
def nJ (xs ys:List Ent):Int:=if au xs≠0 then au xs else au ys
def sg (s:Int)(l:List Ent):List Ent:=l.map λx=>⟨x.row,s*x.count⟩
def nW (M rest:List Ent)(ok:Bool)(zs:List Ent):Prop:=
 ∃ws,M=ws++rest/\(ok=true->zs=aY ws/\ ∀x∈ws, -65536<=x.count/\x.count<=65536)/\(ok=false-> ∃x∈ws,x.count < -65536\/65536<x.count)
theorem nW.start (M:List Ent):nW M M true []:=⟨[],rfl,λ_=>⟨rfl,by simp⟩,λh=>by cases h⟩
theorem nW.step {M rest rest' zs:List Ent}{x:Ent}(h:nW M rest true zs)(e:rest=x :: rest'):nW M rest' (JG zs x.row x.count).1 (JG zs x.row x.count).2:=by
 obtain ⟨ws,h1,h2,_⟩:=h;obtain ⟨h3,h4⟩:=h2 rfl;subst h3 e;refine ⟨ws++[x],by rw[h1];simp,λq=>?_,λq=>?_⟩
 ·rw[JG]at q⊢
  split at q
  ·cases q
  ·rename_i hr;rw[if_neg hr];refine ⟨?_,λy hy=>?_⟩
   ·show (if x.count=0 then aY ws else aY ws++[⟨x.row,x.count⟩])=aY (ws++[x]);rw[show aY (ws++[x])=aY ws++aY [x] from List.filter_append ..]
    split
    ·rename_i q;simp[aY,q]
    ·rename_i q;simp[aY,q]
   ·rcases List.mem_append.1 hy with hy|hy
    ·exact h4 y hy
    ·simp at hy;subst hy;omega
 ·rw[JG]at q
  split at q
  ·rename_i hr;exact ⟨x,by simp,hr⟩
  ·cases q
theorem oF: ∀(l:List Ent) (m:Nat),(∃x∈l,x.count < -65536\/65536<x.count)->aZ m l=true
 | [],m,h=>by simp at h
 |x :: l,m,h=>by
  rw[aZ];by_cases q:x.count=0
  ·rw[if_pos q];refine oF l m ?_;obtain ⟨y,hy,h⟩:=h;rcases List.mem_cons.1 hy with rfl|hy
   ·omega
   ·exact ⟨y,hy,h⟩
  ·rw[if_neg q];obtain ⟨y,hy,h⟩:=h;rcases List.mem_cons.1 hy with rfl|hy
   ·rcases h with h|h <;> simp[h]
   ·rw[oF l (m+1) ⟨y,hy,h⟩];simp
def wu (M:List Ent):Int×List Ent:=if aZ 0 M=true then (2,[]) else (0,aY M)
theorem nW.bad {M rest zs:List Ent}(h:nW M rest false zs):wu M=(2,[]):=by
 obtain ⟨ws,h1,_,h3⟩:=h;obtain ⟨x,hx,h⟩:=h3 rfl;rw[wu,if_pos (oF _ _ ⟨x,by rw[h1];simp[hx],h⟩)]
theorem Dt {xs ys M:List Ent}(h:eu M)(hc: ∀r,cnt M r=cnt xs r+cnt ys r):wu M=gV (xs++ys):=by
 rw[IE h λr=>by rw[hc,iO]];rfl
def BD:List Ent->Int
 | []=>0
 |x :: l=>x.count+BD l
theorem DW (l:List Ent)(x:Ent):BD (l++[x])=BD l+x.count:=by
 induction l with
 |nil=>simp[BD]
 |cons y l ih=>rw[List.cons_append,BD,BD,ih];omega
def EB (ys:List Ent)(r:List Val)(k q:Nat)(n:Int):Prop:= ∃ML,ys.drop k=ML++ys.drop q/\ML.length=q-k/\(∀x∈ML,x.row=r)/\n=BD ML/\ -65536*((q:Int)-k)<=n/\n<=65536*((q:Int)-k)
theorem EB.start (ys:List Ent)(r:List Val)(k:Nat):EB ys r k k 0:=⟨[],by simp,by simp,by simp,rfl,by omega,by omega⟩
theorem EB.step {ys:List Ent}{r:List Val}{k q:Nat}{n:Int}(h:EB ys r k q n)(hk:k<=q){y:Ent}(hy:ys.drop q=y :: ys.drop (q+1))(hr:y.row=r)(hb: -65536<=y.count/\y.count<=65536):EB ys r k (q+1) (n+y.count):=by
 obtain ⟨ML,h1,h2,h3,h4,h5,h6⟩:=h;refine ⟨ML++[y],by rw[h1,hy];simp,by simp;omega,λx hx=>?_,by rw[DW,h4],by omega,by omega⟩;rcases List.mem_append.1 hx with hx|hx
 ·exact h3 x hx
 ·simp at hx;subst hx;exact hr
structure Num (w:World) (gb:Nat) (A:Option Addr) (n c:Nat) (l:List Int) (i:Nat):Prop where
 c0:w.cell? ⟨gb,0,none⟩=some (.slice A n c)
 c1:w.cell? ⟨gb,1,none⟩=some (.int .i64 (i:Int))
 blk:bF w gb 64 2
 lst:Sl w (λk=>k<gb) A n c l
 le:i<=n
 nn:n<=1048576
theorem Num.lt {w:World}{gb:Nat}{A:Option Addr}{n c:Nat}{l:List Int}{i:Nat}(h:Num w gb A n c l i):gb<w.heap.size:=h.blk.lt
theorem Num.inn {w:World}{gb:Nat}{A:Option Addr}{n c:Nat}{l:List Int}{i:Nat}(h:Num w gb A n c l i):In w A n c l:=Sl.mono (λk hk=>Nat.lt_trans hk h.lt) h.lst
theorem Num.below {w w':World}{gb:Nat}{A:Option Addr}{n c:Nat}{l:List Int}{i:Nat}(h:Num w gb A n c l i)(hb:Below w.heap.size w w'):Num w' gb A n c l i:=
 ⟨aj hb h.lt h.c0,aj hb h.lt h.c1,h.blk.below hb,h.lst.keep ((Same.below hb).sub λk hk=>Nat.lt_trans hk h.lt),h.le,h.nn⟩
theorem Num.grown {w w':World}{gb:Nat}{A:Option Addr}{n c:Nat}{l:List Int}{i:Nat}{row:Option Nat}(h:Num w gb A n c l i)(hg:w.grownBy w' row)(hr: ∀k,row=some k->gb<k):Num w' gb A n c l i:=by
 have hs: ∀k,k<=gb->w'.heap[k]?=w.heap[k]?:=λk hk=>hg.block k (Nat.lt_of_le_of_lt hk h.lt) λe=>by have:=hr k e.symm;omega
 obtain ⟨cur,hc,hm⟩:=h.blk;exact ⟨(World.cell?_of_block (a:=⟨gb,0,none⟩) (hs gb (Nat.le_refl _))).trans h.c0,(World.cell?_of_block (a:=⟨gb,1,none⟩) (hs gb (Nat.le_refl _))).trans h.c1,⟨cur,(hs gb (Nat.le_refl _)).trans hc,hm⟩,h.lst.keep λk hk=>hs k (Nat.le_of_lt hk),h.le,h.nn⟩
theorem Num.made (w:World)(A:Option Addr)(n c:Nat)(l:List Int)(h:In w A n c l)(hn:n<=1048576):Num (w.alloc (.cells #[.slice A n c,.int .i64 0] 64)) w.heap.size A n c l 0:=
 ⟨qm (heap_alloc_new w _) 0 _ rfl,qm (heap_alloc_new w _) 1 _ rfl,bF.made w _ _ 2 rfl,h.keep (Same.below ae),Nat.zero_le _,hn⟩
theorem mQ {w:World}{b o:Nat}{v:Value}:w.grownBy (w.setCell ⟨b,o,none⟩ v) (some b):=
 ⟨rfl,rfl,rfl,by simp,λk _ hk=>Below.heap_setCell _ _ _ k (λe=>hk (by rw[show k=b from e]))⟩
theorem eH (w:World)(gb:Nat)(A:Option Addr)(n c:Nat)(l:List Int)(i:Nat)(h:Num w gb A n c l i)(m:Int)(hm:m<=1099511627776):
  Calls Tryz.prog 32 #[.pointer (some ⟨gb,0,none⟩),.int .i64 m] w
   λe w'=>(∃v i',e=.returned (.int .i64 v)/\0<=v/\(1<=m->v<m)/\Num w' gb A n c l i')/\w.grownBy w' (some gb):=by
 have c0:=h.c0;have c1:=h.c1;have f1:=h.blk.frozen 1;have hnn:=h.nn;have H:=hide h;clear h;by_cases hi:n<=i
 ·have q:decide (n<=i)=true:=by simp;omega
  go_enter Tryz.func32,Tryz.ntmps32;go_wp2;go_quiet (fail);go_wp2;all_goals (try (exfalso;go_light;simp_all;done));go_ret;exact ⟨⟨0,i,rfl,by omega,by omega,H.out.below (below_drewN (Below.refl _ _) _)⟩,Below.grows (below_drewN (Below.refl _ _) _) _⟩
 have q:decide (n<=i)=false:=by simp;omega
 by_cases hm1:m<1
 ·have q1:decide (m<1)=true:=by simp;omega
  go_enter Tryz.func32,Tryz.ntmps32;go_wp2;go_quiet (fail);go_wp2;all_goals (try (exfalso;go_light;simp_all;done));go_ret;exact ⟨⟨0,i,rfl,by omega,by omega,H.out.below (below_drewN (Below.refl _ _) _)⟩,Below.grows (below_drewN (Below.refl _ _) _) _⟩
 have q1:decide (m<1)=false:=by simp;omega
 obtain ⟨b,off,x,rfl,hB,HX,e0,e1⟩:=H.out.inn.int (k:=i) (by omega);have k1:IntKind.i64.wrap ((i:Int)+1)=(i:Int)+1:=IntWalk.i64_in _ (by omega);have k2:IntKind.i64.wrap ((i:Int)+1-1)=(i:Int):=by rw[show (i:Int)+1-1=i by omega];exact IntWalk.i64_in _ (by omega)
 have k6:IntKind.i64.wrap (i:Int)=(i:Int):=IntWalk.i64_in _ (by omega);have k3:(i:Int)<(n:Int):=by omega
 have k4:(0:Int)<=(i:Int):=by omega
 have k5:i<n:=by omega
 have hne:b≠gb:=λe=>by
  have h1:=H.out.lst.2.2.2.2 (by omega);obtain ⟨b',off',e',hb',_⟩:=h1;injection e' with e';injection e' with e1 e2;subst e1;omega
 have m0:0<=x % m:=Int.emod_nonneg _ (by omega);have m1:x % m<m:=Int.emod_lt_of_pos _ (by omega);go_enter Tryz.func32,Tryz.ntmps32;go_wp2;go_quiet (fail);go_wp2;obtain ⟨w2,hw2⟩: ∃w2,w2=(w.drewN nq).setCell ⟨gb,1,none⟩ (.int .i64 ((i:Int)+1)):=⟨_,rfl⟩;have d0:w2.cell? ⟨gb,0,none⟩=some (.slice (some ⟨b,off,none⟩) n c):=by rw[hw2];exact af c0 (.inr (by omega))
 have d1:w2.cell? ⟨gb,1,none⟩=some (.int .i64 ((i:Int)+1)):=by rw[hw2];exact bK (w:=w.drewN nq) c1
 have d2:w2.cell? ⟨b,off+i,none⟩=some (.int .i64 x):=by rw[hw2];exact af e0 (.inl hne)
 have hg2:w.grownBy w2 (some gb):=by rw[hw2];exact (Below.grows (below_drewN (Below.refl _ w) nq) _).trans mQ
 have hs2: ∀k,k<gb->w2.heap[k]?=w.heap[k]?:=λk hk=>hg2.block k (Nat.lt_trans hk H.out.lt) (λe=>by injection e with e;omega);have HN:Hid (Num w2 gb (some ⟨b,off,none⟩) n c l (i+1)):=hide ⟨d0,by simpa using d1,by rw[hw2];exact (H.out.blk.below (below_drewN (Below.refl _ w) nq)).set _ _ _,H.out.lst.keep λk hk=>hs2 k hk,by omega,H.out.nn⟩;have HG:=hide hg2;rw[<-hw2];clear hw2 hg2 hs2 c0 c1 e0 f1;go_region_held3 (λV=>V.cell? ⟨gb,0,none⟩=some (.slice (some ⟨b,off,none⟩) n c)/\V.cell? ⟨gb,1,none⟩=some (.int .i64 ((i:Int)+1))/\V.cell? ⟨b,off+i,none⟩=some (.int .i64 x)) (first|exact ⟨d0,d1,d2⟩) (first|(go_at_call 12;refine (Bq x m (by omega) hm _).mono ?_;rintro e w' ⟨rfl,rfl⟩));go_wp2;go_ret;exact ⟨⟨x % m,i+1,rfl,m0,λ_=>m1,HN.out.below (Below.refl _ _).drew⟩,HG.out.trans (Below.grows (Below.refl _ _).drew _)⟩
def Off (w:World){α:Type}[Rep α](gb:Nat)(A:Option Addr)(n c:Nat)(xs:List α):Prop:=Sl w (λk=>k<w.heap.size/\k≠gb) A n c xs
section
variable {α:Type}[Rep α]{w w':World}{gb:Nat}{A:Option Addr}{n c:Nat}{xs:List α}
theorem Off.inn (h:Off w gb A n c xs):In w A n c xs:=Sl.mono (λk hk=>hk.1) h
theorem Off.grown (h:Off w gb A n c xs)(hg:w.grownBy w' (some gb)):Off w' gb A n c xs:=
 (h.keep (λk hk=>hg.block k hk.1 λe=>hk.2 (by injection e))).mono λk hk=>⟨Nat.lt_of_lt_of_le hk.1 hg.size,hk.2⟩
theorem Off.below (h:Off w gb A n c xs)(hb:Below w.heap.size w w'):Off w' gb A n c xs:=h.grown (Below.grows hb _)
end
theorem gH {B gb:Nat}{a w w':World}(h:Below B a w)(hg:w.grownBy w' (some gb))(hB:B<=w.heap.size)(hgb:B<=gb):Below B a w':=h.grown hg hB λk e=>by injection e with e;omega
theorem sU: ∀ks:List Int,ks.flatMap Flat.cs=ks.map (Value.int .i64)
 | []=>rfl
 |x :: l=>by rw[List.flatMap_cons,List.map_cons,sU l];rfl
theorem pJ (w:World):Calls Tryz.prog 99 #[] w λe w'=>(∃l,e=.returned (.slice (some ⟨w.heap.size,0,none⟩) 16 16)/\In w' (some ⟨w.heap.size,0,none⟩) 16 16 l/\ ∀x∈l,(0:Int)<=x/\x<=575999999)/\Below w.heap.size w w':=by
 go_enter Tryz.func99,Tryz.ntmps99;go_wp2;go_loopw [2] (λi wr=> ∃(k:Nat) (cur:Array Value),k<=16/\i=.int .i64 k/\wr.heap[w.heap.size]?=some (.cells cur 3 (0,0))/\cur.size=16/\(∀j,j<16-> ∃x:Int,cur[j]?=some (.int .i64 x)/\0<=x/\x<=153000/\(k<=j->x<=9000))/\Below w.heap.size w wr) (λi _=>16-(intOf i).toNat)
 case atStart=>
  refine ⟨0,_,by omega,rfl,heap_alloc_new w _,rfl,λj hj=>?_,ae⟩;have:j=0\/j=1\/j=2\/j=3\/j=4\/j=5\/j=6\/j=7\/j=8\/j=9\/j=10\/j=11\/j=12\/j=13\/j=14\/j=15:=by omega
  rcases this with rfl|rfl|rfl|rfl|rfl|rfl|rfl|rfl|rfl|rfl|rfl|rfl|rfl|rfl|rfl|rfl <;> exact ⟨_,rfl,by decide,by decide,λ_=>by decide⟩
 case round=>
  obtain ⟨k,cur,hk,rfl,FI,hsz,hall,hb⟩:=hrel;have G9:=hide hall;have HB:=hide hb;have HC:=hide FI;have KS:=hide hsz;clear hall hb;by_cases hlt:k<16
  ·obtain ⟨x,hx,x0,_,x1⟩:=G9.out k hlt;have x1:=x1 (Nat.le_refl _);have k0:(0:Int)<=(k:Int):=by omega
   have k1:(k:Int)<16:=by omega
   have c0:wr.cell? ⟨w.heap.size,k,none⟩=some (.int .i64 x):=by rw[cell_of_row wr w.heap.size k cur 3 (0,0) FI];exact hx
   have f0:wr.frozen? ⟨w.heap.size,k,none⟩=false:=frozen_of_row wr w.heap.size k cur 3 FI;have q:IntKind.i64.wrap (x+144000)=x+144000:=IntWalk.i64_in _ (by omega);clear FI hsz hx;go_wp2;go_roundw
   case rel=>
    refine ⟨k+1,cur.setIfInBounds k (.int .i64 (x+144000)),by omega,by go_num,by simp[World.setCell,Array.getElem?_modify,HC.out],by simp[KS.out],λj hj=>?_,HB.out.setCell (Nat.le_refl _) _⟩;by_cases hjk:k=j
    ·subst hjk;exact ⟨x+144000,by rw[Array.getElem?_setIfInBounds_self];simp[KS.out,hj],by omega,by omega,λh=>by omega⟩
    ·obtain ⟨y,hy,y0,y1,y2⟩:=G9.out j hj;exact ⟨y,by rw[Array.getElem?_setIfInBounds_ne hjk];exact hy,y0,y1,λh=>y2 (by omega)⟩
   case measure=>simp[intOf];omega
  ·have HL:Hid (cur.toList=(cur.toList.map intOf).map (Value.int .i64)):=hide (by
    apply List.ext_getElem?;intro j;rw[List.getElem?_map,List.getElem?_map,Array.getElem?_toList];by_cases hj:j<16
    ·obtain ⟨y,hy,_⟩:=G9.out j hj;rw[hy];rfl
    ·rw[Array.getElem?_eq_none (by omega)];rfl)
   have HM:Hid (∀x∈cur.toList.map intOf,(0:Int)<=x/\x<=575999999):=hide (by
    intro x hx;obtain ⟨v,hv,rfl⟩:=List.mem_map.1 hx;obtain ⟨j,hj,rfl⟩:=List.getElem_of_mem hv;rw[Array.length_toList,KS.out]at hj;obtain ⟨y,hy,y0,y1,_⟩:=G9.out j hj;rw[Array.getElem?_eq_getElem (by omega)]at hy;injection hy with hy;rw[Array.getElem_toList,hy];show 0<=y/\y<=_;omega)
   have Rw:k=16:=by omega
   subst Rw;clear FI hsz;go_wp2;go_ret;have hl:=HL.out;have hm:=HM.out;have hlen:(cur.toList.map intOf).length=16:=by simp[KS.out]
   generalize cur.toList.map intOf=l at*;refine ⟨⟨l,rfl,fC HC.out ?_ hlen (by decide),hm⟩,HB.out⟩;have h:=kN wr (λk=>k<wr.heap.size) (xs:=l) (λx hx=>by have:=hm x hx;exact ⟨by omega,by omega⟩);rw[sU]at h;rw[hl];exact h
theorem sG {xs ys:List Ent}:nJ xs ys=0↔au xs=0/\au ys=0:=by
 rw[nJ]
 split
 ·rename_i h;exact ⟨λq=>absurd q h,λq=>absurd q.1 h⟩
 ·rename_i h;exact ⟨λq=>⟨by simpa using h,q⟩,λq=>q.2⟩
theorem EG {xs ys:List Ent}(h:nJ xs ys≠0):lQ xs ys=(nJ xs ys,[]):=by
 rw[nJ]at h⊢;rw[lQ]
 split
 ·rfl
 ·rename_i q;rw[if_neg q]at h;rw[if_pos h]
theorem Iz {xs ys:List Ent}(h:nJ xs ys=0):lQ xs ys=wu (aL xs ys):=by
 obtain ⟨h1,h2⟩:=sG.1 h;rw[lQ,if_neg (by simpa using h1),if_neg (by simpa using h2),Dt (tV (dN h1) (dN h2)) (tX xs ys)]
theorem BV {b:List Ent}(h:au b=0):oK 65536 b:=λx hx=>by have:=wX (iZ h x hx);omega
theorem BZ {b:List Ent}(h:au b=0): ∀x∈b,x.row.length<=12:=λx hx=>(wX (iZ h x hx)).2.2
theorem EJ {b:List Ent}(h:au b=0):b.length<=4096:=(dM.1 h).1
theorem Gv (w:World)(A:Option Addr)(n c:Nat)(xs:List Ent)(hx:In w A n c xs)(A2:Option Addr)(n2 c2:Nat)(ys:List Ent)(hy:In w A2 n2 c2 ys):
  Calls Tryz.prog 45 #[.slice A n c,.slice A2 n2 c2] w λe w'=>e=.returned (.int .i64 (nJ xs ys))/\Below w.heap.size w w':=by
 have HF:=hide (show nJ xs ys=if au xs≠0 then au xs else au ys from rfl);generalize nJ xs ys=r at*;obtain ⟨E,hE⟩: ∃E,au xs=E:=⟨_,rfl⟩;have HE:=hide hE;rw[hE]at HF;clear hE;go_enter Tryz.func45,Tryz.ntmps45;have HX:=hide hx;clear hx;have HY:=hide hy;clear hy;go_wp2_with fail;refine (BX _ _ _ _ xs HX.out).mono ?_;rintro e w5 ⟨rfl,hb5⟩;have HY:=hide (HY.out.below hb5);have BU:=hide hb5;clear hb5;rw[HE.out];by_cases h0:E=0
 ·have KA:=HF.out;rw[if_neg (by simpa using h0)]at KA;subst h0;go_wp2_with fail;refine (BX _ _ _ _ ys HY.out).mono ?_;rintro e w7 ⟨rfl,j5⟩;have xK:=hide (aa BU.out j5);clear j5;go_wp2;go_ret;exact ⟨ai KA.symm,xK.out⟩
 ·have KA:=HF.out;rw[if_pos h0]at KA;subst KA;have q:(r != 0)=true:=by simpa using h0
  go_wp2;all_goals (try (exfalso;go_light;simp_all;done));go_ret;exact ⟨rfl,BU.out⟩
theorem xA {M:List Ent}{m:Int}{zs:List Ent}(h:(m=2/\aZ 0 M=true/\zs=[])\/(m=0/\aZ 0 M=false/\zs=aY M)):wu M=(m,zs):=by
 rw[wu];rcases h with ⟨rfl,h,rfl⟩|⟨rfl,h,rfl⟩
 ·rw[if_pos h]
 ·rw[if_neg (by rw[h];simp)]
theorem zt {xs ys:List Ent}:(aL xs ys).length<=xs.length+ys.length:=fO _ xs ys (Nat.le_refl _)
theorem OwnEnts.out {w w':World}{S:Nat->Prop}{v:Value}{zs:List Ent}(h:OwnEnts w w' S v zs)(hS: ∀k,S k->k<w'.heap.size): ∃A c,v=.slice A zs.length c/\In w' A zs.length c zs:=h.sl hS
theorem EI (w:World)(A:Option Addr)(n c:Nat)(xs:List Ent)(hx:In w A n c xs)(A2:Option Addr)(n2 c2:Nat)(ys:List Ent)(hy:In w A2 n2 c2 ys):
  Calls Tryz.prog 20 #[.slice A n c,.slice A2 n2 c2] w λe w'=>(∃v,e=.returned (.tuple #[v,.int .i64 (lQ xs ys).1])/\OE w.heap.size w' v (lQ xs ys).2)/\Below w.heap.size w w':=by
 have H1:=hide (EG (xs:=xs) (ys:=ys));have H2:=hide (Iz (xs:=xs) (ys:=ys));have H3:=hide (sG (xs:=xs) (ys:=ys)).1;obtain ⟨R,hR⟩: ∃R,lQ xs ys=R:=⟨_,rfl⟩;rw[hR]at H1 H2⊢;obtain ⟨E,hE⟩: ∃E,nJ xs ys=E:=⟨_,rfl⟩;have HE:=hide hE;rw[hE]at H1 H2 H3;clear hE hR;have hnx:=hx.len;have hny:=hy.len;go_enter Tryz.func20,Tryz.ntmps20;have HX:=hide hx;clear hx;have HY:=hide hy;clear hy;go_wp2_with fail;refine (Gv _ _ _ _ xs HX.out _ _ _ ys HY.out).mono ?_;rintro e w9 ⟨rfl,fo⟩;have HX:=hide (HX.out.below fo);have HY:=hide (HY.out.below fo);have dC:=hide fo;clear fo;rw[HE.out];by_cases h0:E=0
 ·have UY:=hide (H2.out h0);obtain ⟨h1,h2⟩:=H3.out h0;have h3:=EJ h1;have h4:=EJ h2;have Uu:=hide h1;have HG2:=hide h2;have JS:=hide (zt (xs:=xs) (ys:=ys));have UN:Hid (∀x∈aL xs ys,x.row.length<=4096):=hide λx hx=>by
   have:=bO (P:=λr=>r.length<=12) _ xs ys (BZ h1) (BZ h2) x hx;omega
  subst h0;have hsz:=dC.out.size;clear h1 h2;go_wp2_with fail;refine (ww _ _ _ _ _ _ _ xs ys HX.out HY.out (by omega) 65536 65536 (by omega) (by omega) (by omega) (by omega) (BV Uu.out) (BV HG2.out)).mono ?_;rintro e TV ⟨⟨v,rfl,ho⟩,og⟩;have NC:=hide og;have jU:=hide (aa dC.out og);clear og;obtain ⟨A6,c6,hv,hin⟩:=ho.sl (λk hk=>Nat.lt_of_lt_of_le hk NC.out.size);subst hv;have PM:=JS.out;have hsz2:=jU.out.size;clear ho;generalize aL xs ys=M at*;go_wp2_with fail;refine (uw _ _ _ _ M hin (by omega) UN.out).mono ?_;rintro e TW ⟨⟨v,m,zs,rfl,hf,hal⟩,oh⟩;have ND:=hide oh;have Ae:=hide (aa jU.out oh);clear oh;have HR:=hide (xA hal);have HO:=hide ((hf.ol ND.out.size).rebase hsz2);clear hf hal;obtain rfl:=UY.out.trans HR.out;go_wp2;go_ret2;exact ⟨⟨_,rfl,HO.out⟩,Ae.out⟩
 ·obtain rfl:=H1.out h0;have q:(E != 0)=true:=by simpa using h0
  go_wp2;all_goals (try (exfalso;go_light;simp_all;done));go_ret2;exact ⟨⟨_,rfl,OL.nil dC.out.size⟩,dC.out⟩
end Go.Proofs.YtopjjlmfilgngaaGreatDoor
