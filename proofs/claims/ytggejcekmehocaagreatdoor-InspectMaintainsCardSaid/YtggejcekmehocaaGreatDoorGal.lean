/-
  (*warehouseworld.Numbers).Next; Instants, Value, Row. slices.Clone of values, partition.copied, byDay: the rows of each day, copied. Package bag: put, done, both. warehouseref22.CopyEntries.
-/
import Derived.Test.YtggejcekmehocaaGreatDoorGaj
import Derived.Test.YtggejcekmehocaaGreatDoorGak
import Derived.Test.YtggejcekmehocaaGreatDoorGae
import Derived.Test.YtggejcekmehocaaGreatDoorGah
import Derived.Test.YtggejcekmehocaaGreatDoorGad
namespace Go.Proofs.YtggejcekmehocaaGreatDoor
set_option maxHeartbeats 4000000
set_option maxRecDepth 100000
open Go.RowKit
set_option linter.unusedSimpArgs false
set_option linter.unusedVariables false
structure Num (w:World) (gb:Nat) (A:Option Addr) (n c:Nat) (l:List Int) (i:Nat):Prop where
 c0:w.cell? ⟨gb,0,none⟩=some (.slice A n c)
 c1:w.cell? ⟨gb,1,none⟩=some (.int .i64 (i:Int))
 blk:cO w gb 51 2
 lst:Sl w (λk=>k<gb) A n c l
 le:i<=n
 nn:n<=1048576
theorem Num.lt {w:World}{gb:Nat}{A:Option Addr}{n c:Nat}{l:List Int}{i:Nat}(h:Num w gb A n c l i):gb<w.heap.size:=h.blk.lt
theorem Num.inn {w:World}{gb:Nat}{A:Option Addr}{n c:Nat}{l:List Int}{i:Nat}(h:Num w gb A n c l i):In w A n c l:=Sl.mono (λk hk=>Nat.lt_trans hk h.lt) h.lst
theorem Num.below {w w':World}{gb:Nat}{A:Option Addr}{n c:Nat}{l:List Int}{i:Nat}(h:Num w gb A n c l i)(hb:Below w.heap.size w w'):Num w' gb A n c l i:=
 ⟨bat hb h.lt h.c0,bat hb h.lt h.c1,h.blk.below hb,h.lst.keep ((Same.below hb).sub λk hk=>Nat.lt_trans hk h.lt),h.le,h.nn⟩
theorem Num.grown {w w':World}{gb:Nat}{A:Option Addr}{n c:Nat}{l:List Int}{i:Nat}{row:Option Nat}(h:Num w gb A n c l i)(hg:w.grownBy w' row)(hr: ∀k,row=some k->gb<k):Num w' gb A n c l i:=by
 have hs: ∀k,k<=gb->w'.heap[k]?=w.heap[k]?:=λk hk=>hg.block k (Nat.lt_of_le_of_lt hk h.lt) λe=>by have:=hr k e.symm;omega
 obtain ⟨cur,hc,hm⟩:=h.blk;exact ⟨(World.cell?_of_block (a:=⟨gb,0,none⟩) (hs gb (Nat.le_refl _))).trans h.c0,(World.cell?_of_block (a:=⟨gb,1,none⟩) (hs gb (Nat.le_refl _))).trans h.c1,⟨cur,(hs gb (Nat.le_refl _)).trans hc,hm⟩,h.lst.keep λk hk=>hs k (Nat.le_of_lt hk),h.le,h.nn⟩
theorem Num.made (w:World)(A:Option Addr)(n c:Nat)(l:List Int)(h:In w A n c l)(hn:n<=1048576):Num (w.alloc (.cells #[.slice A n c,.int .i64 0] 51)) w.heap.size A n c l 0:=
 ⟨wM (heap_alloc_new w _) 0 _ rfl,wM (heap_alloc_new w _) 1 _ rfl,cO.made w _ _ 2 rfl,h.keep (Same.below ae),Nat.zero_le _,hn⟩
theorem grown_set {w:World}{b o:Nat}{v:Value}:w.grownBy (w.setCell ⟨b,o,none⟩ v) (some b):=
 ⟨rfl,rfl,rfl,by simp,λk _ hk=>Below.heap_setCell _ _ _ k (λe=>hk (by rw[show k=b from e]))⟩
theorem fK (w:World)(gb:Nat)(A:Option Addr)(n c:Nat)(l:List Int)(i:Nat)(h:Num w gb A n c l i)(m:Int)(hm:m<=1099511627776):
  Calls Tryz.prog 45 #[.pointer (some ⟨gb,0,none⟩),.int .i64 m] w
   λe w'=>(∃v i',e=.returned (.int .i64 v)/\0<=v/\(1<=m->v<m)/\Num w' gb A n c l i')/\w.grownBy w' (some gb):=by
 have c0:=h.c0;have c1:=h.c1;have f1:=h.blk.frozen 1;have hnn:=h.nn;have H:=hide h;clear h;by_cases hi:n<=i
 ·have q:decide (n<=i)=true:=by simp;omega
  go_enter Tryz.func45,Tryz.ntmps45;go_wp2;go_quiet (fail);go_wp2;all_goals (try (exfalso;go_light;simp_all;done));go_ret;exact ⟨⟨0,i,rfl,by omega,by omega,H.out.below (below_drewN (Below.refl _ _) _)⟩,Below.grows (below_drewN (Below.refl _ _) _) _⟩
 have q:decide (n<=i)=false:=by simp;omega
 by_cases hm1:m<1
 ·have q1:decide (m<1)=true:=by simp;omega
  go_enter Tryz.func45,Tryz.ntmps45;go_wp2;go_quiet (fail);go_wp2;all_goals (try (exfalso;go_light;simp_all;done));go_ret;exact ⟨⟨0,i,rfl,by omega,by omega,H.out.below (below_drewN (Below.refl _ _) _)⟩,Below.grows (below_drewN (Below.refl _ _) _) _⟩
 have q1:decide (m<1)=false:=by simp;omega
 obtain ⟨b,off,x,rfl,hB,HX,e0,e1⟩:=H.out.inn.int (k:=i) (by omega);have k1:IntKind.i64.wrap ((i:Int)+1)=(i:Int)+1:=IntWalk.i64_in _ (by omega);have k2:IntKind.i64.wrap ((i:Int)+1-1)=(i:Int):=by rw[show (i:Int)+1-1=i by omega];exact IntWalk.i64_in _ (by omega)
 have k6:IntKind.i64.wrap (i:Int)=(i:Int):=IntWalk.i64_in _ (by omega);have k3:(i:Int)<(n:Int):=by omega
 have k4:(0:Int)<=(i:Int):=by omega
 have k5:i<n:=by omega
 have hne:b≠gb:=λe=>by
  have h1:=H.out.lst.2.2.2.2 (by omega);obtain ⟨b',off',e',hb',_⟩:=h1;injection e' with e';injection e' with e1 e2;subst e1;omega
 have m0:0<=x % m:=Int.emod_nonneg _ (by omega);have m1:x % m<m:=Int.emod_lt_of_pos _ (by omega);go_enter Tryz.func45,Tryz.ntmps45;go_wp2;go_quiet (fail);go_wp2;obtain ⟨w2,hw2⟩: ∃w2,w2=(w.drewN nq).setCell ⟨gb,1,none⟩ (.int .i64 ((i:Int)+1)):=⟨_,rfl⟩;have d0:w2.cell? ⟨gb,0,none⟩=some (.slice (some ⟨b,off,none⟩) n c):=by rw[hw2];exact af c0 (.inr (by omega))
 have d1:w2.cell? ⟨gb,1,none⟩=some (.int .i64 ((i:Int)+1)):=by rw[hw2];exact dA (w:=w.drewN nq) c1
 have d2:w2.cell? ⟨b,off+i,none⟩=some (.int .i64 x):=by rw[hw2];exact af e0 (.inl hne)
 have hg2:w.grownBy w2 (some gb):=by rw[hw2];exact (Below.grows (below_drewN (Below.refl _ w) nq) _).trans grown_set
 have hs2: ∀k,k<gb->w2.heap[k]?=w.heap[k]?:=λk hk=>hg2.block k (Nat.lt_trans hk H.out.lt) (λe=>by injection e with e;omega);have HN:Hid (Num w2 gb (some ⟨b,off,none⟩) n c l (i+1)):=hide ⟨d0,by simpa using d1,by rw[hw2];exact (H.out.blk.below (below_drewN (Below.refl _ w) nq)).set _ _ _,H.out.lst.keep λk hk=>hs2 k hk,by omega,H.out.nn⟩;have HG:=hide hg2;rw[<-hw2];clear hw2 hg2 hs2 c0 c1 e0 f1;go_region_held3 (λV=>V.cell? ⟨gb,0,none⟩=some (.slice (some ⟨b,off,none⟩) n c)/\V.cell? ⟨gb,1,none⟩=some (.int .i64 ((i:Int)+1))/\V.cell? ⟨b,off+i,none⟩=some (.int .i64 x)) (first|exact ⟨d0,d1,d2⟩) (first|(go_at_call 34;refine (lh x m (by omega) hm _).mono ?_;rintro e w' ⟨rfl,rfl⟩));go_wp2;go_ret;exact ⟨⟨x % m,i+1,rfl,m0,λ_=>m1,HN.out.below (Below.refl _ _).drew⟩,HG.out.trans (Below.grows (Below.refl _ _).drew _)⟩
def Off (w:World){α:Type}[Rep α](gb:Nat)(A:Option Addr)(n c:Nat)(xs:List α):Prop:=Sl w (λk=>k<w.heap.size/\k≠gb) A n c xs
section
variable {α:Type}[Rep α]{w w':World}{gb:Nat}{A:Option Addr}{n c:Nat}{xs:List α}
theorem Off.inn (h:Off w gb A n c xs):In w A n c xs:=Sl.mono (λk hk=>hk.1) h
theorem Off.grown (h:Off w gb A n c xs)(hg:w.grownBy w' (some gb)):Off w' gb A n c xs:=
 (h.keep (λk hk=>hg.block k hk.1 λe=>hk.2 (by injection e))).mono λk hk=>⟨Nat.lt_of_lt_of_le hk.1 hg.size,hk.2⟩
theorem Off.below (h:Off w gb A n c xs)(hb:Below w.heap.size w w'):Off w' gb A n c xs:=h.grown (Below.grows hb _)
end
theorem below_of_grown {B gb:Nat}{a w w':World}(h:Below B a w)(hg:w.grownBy w' (some gb))(hB:B<=w.heap.size)(hgb:B<=gb):Below B a w':=h.grown hg hB λk e=>by injection e with e;omega
theorem zb: ∀ks:List Int,ks.flatMap Flat.cs=ks.map (Value.int .i64)
 | []=>rfl
 |x :: l=>by rw[List.flatMap_cons,List.map_cons,zb l];rfl
theorem vF (w:World):Calls Tryz.prog 113 #[] w λe w'=>(∃l,e=.returned (.slice (some ⟨w.heap.size,0,none⟩) 16 16)/\In w' (some ⟨w.heap.size,0,none⟩) 16 16 l/\ ∀x∈l,(0:Int)<=x/\x<=575999999)/\Below w.heap.size w w':=by
 go_enter Tryz.func113,Tryz.ntmps113;go_wp2;go_loopw [2] (λi wr=> ∃(k:Nat) (cur:Array Value),k<=16/\i=.int .i64 k/\wr.heap[w.heap.size]?=some (.cells cur 3 (0,0))/\cur.size=16/\(∀j,j<16-> ∃x:Int,cur[j]?=some (.int .i64 x)/\0<=x/\x<=153000/\(k<=j->x<=9000))/\Below w.heap.size w wr) (λi _=>16-(intOf i).toNat)
 case atStart=>
  refine ⟨0,_,by omega,rfl,heap_alloc_new w _,rfl,λj hj=>?_,ae⟩;have:j=0\/j=1\/j=2\/j=3\/j=4\/j=5\/j=6\/j=7\/j=8\/j=9\/j=10\/j=11\/j=12\/j=13\/j=14\/j=15:=by omega
  rcases this with rfl|rfl|rfl|rfl|rfl|rfl|rfl|rfl|rfl|rfl|rfl|rfl|rfl|rfl|rfl|rfl <;> exact ⟨_,rfl,by decide,by decide,λ_=>by decide⟩
 case round=>
  obtain ⟨k,cur,hk,rfl,Mm,hsz,hall,hb⟩:=hrel;have NI:=hide hall;have HB:=hide hb;have HC:=hide Mm;have TC:=hide hsz;clear hall hb;by_cases hlt:k<16
  ·obtain ⟨x,hx,x0,_,x1⟩:=NI.out k hlt;have x1:=x1 (Nat.le_refl _);have k0:(0:Int)<=(k:Int):=by omega
   have k1:(k:Int)<16:=by omega
   have c0:wr.cell? ⟨w.heap.size,k,none⟩=some (.int .i64 x):=by rw[cell_of_row wr w.heap.size k cur 3 (0,0) Mm];exact hx
   have f0:wr.frozen? ⟨w.heap.size,k,none⟩=false:=frozen_of_row wr w.heap.size k cur 3 Mm;have q:IntKind.i64.wrap (x+144000)=x+144000:=IntWalk.i64_in _ (by omega);clear Mm hsz hx;go_wp2;go_roundw
   case rel=>
    refine ⟨k+1,cur.setIfInBounds k (.int .i64 (x+144000)),by omega,by go_num,by simp[World.setCell,Array.getElem?_modify,HC.out],by simp[TC.out],λj hj=>?_,HB.out.setCell (Nat.le_refl _) _⟩;by_cases hjk:k=j
    ·subst hjk;exact ⟨x+144000,by rw[Array.getElem?_setIfInBounds_self];simp[TC.out,hj],by omega,by omega,λh=>by omega⟩
    ·obtain ⟨y,hy,y0,y1,y2⟩:=NI.out j hj;exact ⟨y,by rw[Array.getElem?_setIfInBounds_ne hjk];exact hy,y0,y1,λh=>y2 (by omega)⟩
   case measure=>simp[intOf];omega
  ·have HL:Hid (cur.toList=(cur.toList.map intOf).map (Value.int .i64)):=hide (by
    apply List.ext_getElem?;intro j;rw[List.getElem?_map,List.getElem?_map,Array.getElem?_toList];by_cases hj:j<16
    ·obtain ⟨y,hy,_⟩:=NI.out j hj;rw[hy];rfl
    ·rw[Array.getElem?_eq_none (by omega)];rfl)
   have HM:Hid (∀x∈cur.toList.map intOf,(0:Int)<=x/\x<=575999999):=hide (by
    intro x hx;obtain ⟨v,hv,rfl⟩:=List.mem_map.1 hx;obtain ⟨j,hj,rfl⟩:=List.getElem_of_mem hv;rw[Array.length_toList,TC.out]at hj;obtain ⟨y,hy,y0,y1,_⟩:=NI.out j hj;rw[Array.getElem?_eq_getElem (by omega)]at hy;injection hy with hy;rw[Array.getElem_toList,hy];show 0<=y/\y<=_;omega)
   have XH:k=16:=by omega
   subst XH;clear Mm hsz;go_wp2;go_ret;have hl:=HL.out;have hm:=HM.out;have hlen:(cur.toList.map intOf).length=16:=by simp[TC.out]
   generalize cur.toList.map intOf=l at*;refine ⟨⟨l,rfl,iL HC.out ?_ hlen (by decide),hm⟩,HB.out⟩;have h:=nA wr (λk=>k<wr.heap.size) (xs:=l) (λx hx=>by have:=hm x hx;exact ⟨by omega,by omega⟩);rw[zb]at h;rw[hl];exact h
theorem wO (w:World)(A:Option Addr)(n c:Nat)(xs:List Val)(hx:In w A n c xs)(hn:n<=1048576):
  Calls Tryz.prog 63 #[.slice A n c] w λe w'=>(∃A' c',e=.returned (.slice A' n c')/\Sl w' (New w w' 74) A' n c' xs)/\Below w.heap.size w w':=by
 obtain ⟨i0,hi,hz0,hz1,hz2⟩:=info_parts lZ;have hlen:=hide hx.len;have kn:=λ(W:World) (a:Option Addr) (l c:Nat)=>Lib.run_eql_slice_nil (P:=Tryz.prog) W 59 74 a l c 0 0 Tryz.underlying59;cases A with
 |none=>
  have h0:c=0:=hx.2.2.2.1 rfl;have h1:n=0:=by have:=hx.2.1;omega
  subst h0 h1;have he:xs=[]:=List.eq_nil_of_length_eq_zero hx.1;subst he;go_enter Tryz.func63,Tryz.ntmps63;go_wp2;go_ret;exact ⟨⟨_,_,rfl,Sl.nil_⟩,Below.refl _ _⟩
 |some ad=>
  obtain ⟨cs,HC,HS⟩:=Sl.cells (hx.below (ae (o:=.cells #[] 74)));have h1:=qy HC;have HC:=hide HC;go_enter Tryz.func63,Tryz.ntmps63;go_wp2_with (at_builtin;refine iw _ rfl (.tmp 5) (.tmp 6) 59 rfl w.heap.size 74 i0 _ 3 32 Tryz.underlying59 hi hz0 hz1 hz2 rfl (by decide) (.slice (some ⟨w.heap.size,0,none⟩) 0 0) 0 [] rfl (World.ownsRow_made w #[] 0 (Nat.le_refl _) (by decide) rfl) (some ad) n c cs rfl (λh=>by cases h) HS h1 (by simp only[maxLen];omega) (by omega) (by simp) ?_;intro v1 w3 hown1 hg1 qY);have hb3:Below w.heap.size w w3:=(ae).grown hg1 (by simp) (λj e=>by simp[Value.ownBlock]at e;omega);have hown2:w3.ownsRow w.heap.size 74 3 v1 n cs:=by simpa using hown1
  obtain ⟨A',c',rfl,hsl,_⟩:=fE (S:=λ_=>False) (T:=New w w3 74) hown2 (lF HC.out) (λ_ h=>h.elim) hlen.out (λg hg ht=>⟨hg,ht⟩);go_ret;exact ⟨⟨A',c',rfl,hsl⟩,hb3⟩
theorem fD:Elem Tryz.prog 30 61 2 32:=CS _ Tryz.underlying30 pK rfl (by decide)
theorem R5 {w w':World}{B:Nat}{O:Nat->Prop}{T:List TypeId}{t:TypeId}(hB:B<=w.heap.size)(ht:t∈T){k:Nat}(h:New w w' t k):BS B O T w' k:=.inr ⟨Nat.le_trans hB h.1,t,ht,h.2⟩
abbrev OE (B:Nat)(w:World)(v:Value)(zs:List Ent):Prop:=OL 61 B (λ_=>False) [74] w v zs
theorem aB.ol {w w':World}{v:Value}{zs:List Ent}(h:aB w w' v zs)(hb:w.heap.size<=w'.heap.size):OE w.heap.size w' v zs:=by
 obtain ⟨cs,h1,h2⟩:=h;exact ⟨⟨cs,h1,h2.mono λk hk=>.inr ⟨hk.1,_,by simp,hk.2⟩⟩,hb⟩
def qK (zs:List Ent)(row:List Val)(k:Int):Bool×List Ent:=if k < -65536\/65536<k then (false,[]) else (true,if k=0 then zs else zs++[⟨row,k⟩])
theorem vN (W:World)(B:Nat)(v:Value)(zs:List Ent)(hO:OE B W v zs)(A:Option Addr)(n c:Nat)(row:List Val)(hr:In W A n c row)(hn:n<=4096)(k:Int)(hk:fP k)(hl:zs.length<1048576):
  Calls Tryz.prog 111 #[v,.slice A n c,.int .i64 k] W λe w'=>(∃v',e=.returned (.tuple #[v',.bool (qK zs row k).1])/\OE B w' v' (qK zs row k).2)/\W.grownBy w' v.ownBlock/\Below B W w':=by
 have HO:=hide hO;by_cases h1:k < -65536
 ·have e1:qK zs row k=(false,[]):=if_pos (.inl h1);rw[e1];have d1:decide (k < -65536)=true:=by simpa using h1
  go_enter Tryz.func111,Tryz.ntmps111;go_wp2;all_goals (try (exfalso;go_light;simp_all;done));go_ret2;exact ⟨⟨_,rfl,OL.nil hO.base⟩,World.grownBy.refl _ _,Below.refl _ _⟩
 by_cases h2:65536<k
 ·have e1:qK zs row k=(false,[]):=if_pos (.inr h2);rw[e1];have d1:decide (k < -65536)=false:=by simpa using h1
  have d2:decide (65536<k)=true:=by simpa using h2
  go_enter Tryz.func111,Tryz.ntmps111;go_wp2;all_goals (try (exfalso;go_light;simp_all;done));go_ret2;exact ⟨⟨_,rfl,OL.nil hO.base⟩,World.grownBy.refl _ _,Below.refl _ _⟩
 have d1:decide (k < -65536)=false:=by simpa using h1
 have d2:decide (65536<k)=false:=by simpa using h2
 by_cases h3:k=0
 ·have e1:qK zs row k=(true,zs):=by rw[qK,if_neg (by omega),if_pos h3]
  rw[e1];clear e1 h1 h2;subst h3;go_enter Tryz.func111,Tryz.ntmps111;go_wp2;all_goals (try (exfalso;go_light;simp_all;done));go_ret2;exact ⟨⟨_,rfl,HO.out⟩,World.grownBy.refl _ _,Below.refl _ _⟩
 have e1:qK zs row k=(true,zs++[⟨row,k⟩]):=by rw[qK,if_neg (by omega),if_neg h3]
 rw[e1];have d3:(k != 0)=true:=by simpa using h3
 clear e1 h1 h2;go_enter Tryz.func111,Tryz.ntmps111;go_wp2_with fail;refine (wO _ A n c row hr (by omega)).mono ?_;rintro e w1 ⟨⟨A1,c1,rfl,hs⟩,hb1⟩;have HS:=hide (hs.mono λk hk=>R5 (B:=B) (O:=λ_=>False) (T:=[74]) hO.base (by simp) hk);have wB:=hide (hO.below hb1);have HB1:=hide hb1;clear hs hb1;go_wp2_with (at_builtin;refine aS _ rfl _ _ _ rfl fD (by decide) _ _ rfl wB.out rfl rfl ⟨row,k⟩ ⟨_,_,_,rfl,HS.out,hk⟩ (by simp only[maxLen];omega) (by omega) ?_;intro v1 w9 kV dZ oU kU);have uG:=hide kV;have DK:=hide ((Below.grows HB1.out v.ownBlock).trans oU);have tF:=hide ((HB1.out.mono hO.base).trans dZ);clear kV dZ oU kU;go_wp2;all_goals (try (exfalso;go_light;simp_all;done));go_ret2;exact ⟨⟨_,rfl,uG.out⟩,DK.out,tF.out⟩
theorem Lh (W:World)(v:Value)(n c:Nat)(A:Option Addr)(hn:n<=9223372036854775807):
  Calls Tryz.prog 112 #[.slice A n c] W λe w'=>e=.returned (if 4096<n then .tuple #[.slice none 0 0,.int .i64 2] else .tuple #[.slice A n c,.int .i64 0])/\Below W.heap.size W w':=by
 by_cases h:4096<n
 ·rw[if_pos h];have h1:(4096:Int)<(n:Int):=by omega
  go_enter Tryz.func112,Tryz.ntmps112;go_wp2;go_ret2;exact ⟨rfl,Below.refl _ _⟩
 ·rw[if_neg h];have h1:¬(4096:Int)<(n:Int):=by omega
  go_enter Tryz.func112,Tryz.ntmps112;go_wp2;go_ret2;exact ⟨rfl,Below.refl _ _⟩
def jS (xs ys:List Ent):Int:=if ay xs≠0 then ay xs else ay ys
theorem Bv (w:World)(A:Option Addr)(n c:Nat)(xs:List Ent)(hx:In w A n c xs)(A2:Option Addr)(n2 c2:Nat)(ys:List Ent)(hy:In w A2 n2 c2 ys):
  Calls Tryz.prog 73 #[.slice A n c,.slice A2 n2 c2] w λe w'=>e=.returned (.int .i64 (jS xs ys))/\Below w.heap.size w w':=by
 have HF:=hide (show jS xs ys=if ay xs≠0 then ay xs else ay ys from rfl);generalize jS xs ys=r at*;obtain ⟨E,hE⟩: ∃E,ay xs=E:=⟨_,rfl⟩;have HE:=hide hE;rw[hE]at HF;clear hE;go_enter Tryz.func73,Tryz.ntmps73;have HX:=hide hx;clear hx;have HY:=hide hy;clear hy;go_wp2_with fail;refine (yo _ _ _ _ xs HX.out).mono ?_;rintro e w1 ⟨rfl,hb1⟩;have HY:=hide (HY.out.below hb1);have fq:=hide hb1;clear hb1;rw[HE.out];by_cases h0:E=0
 ·have DJ:=HF.out;rw[if_neg (by simpa using h0)]at DJ;subst h0;go_wp2_with fail;refine (yo _ _ _ _ ys HY.out).mono ?_;rintro e w3 ⟨rfl,hb3⟩;have kK:=hide (aa fq.out hb3);clear hb3;go_wp2;go_ret;exact ⟨aj DJ.symm,kK.out⟩
 ·have DJ:=HF.out;rw[if_pos h0]at DJ;subst DJ;have q:(r != 0)=true:=by simpa using h0
  go_wp2;all_goals (try (exfalso;go_light;simp_all;done));go_ret;exact ⟨rfl,fq.out⟩
theorem CJ (w:World)(A:Option Addr)(n c:Nat)(xs:List Ent)(hx:In w A n c xs)(hn:n<=1048576)(hrow: ∀x∈xs,x.row.length<=4096):
  Calls Tryz.prog 39 #[.slice A n c] w
   λe w'=>(∃v,e=.returned v/\aB w w' v xs)/\Below w.heap.size w w':=by
 obtain ⟨i0,hi,hz0,hz1,hz2⟩:=info_parts pK;obtain ⟨i1,hj,hy0,hy1,hy2⟩:=info_parts lZ;have h63:=hx.le;go_enter Tryz.func39,Tryz.ntmps39;go_wp2;go_loopw [3,4] (λo i wr=> ∃k:Nat,k<=n/\i=.int .i64 k/\aB w wr o (xs.take k)/\Below w.heap.size w wr)
  (λ_ i _=>n-(RowKit.intOf i).toNat)
 case atStart=>exact ⟨0,Nat.zero_le _,rfl,aB.nil _ _,Below.refl _ _⟩
 case round=>
  obtain ⟨k,hk,rfl,hf,hb⟩:=hrel;have HF:=hide hf;clear hf;by_cases hlt:k<n
  ·obtain ⟨bl,off,x,rfl,hB,HX,Ax,nx,cx,e0,e1,e2,e3⟩:=hx.ent hlt;replace e0:=bat hb hB e0;replace e1:=bat hb hB e1;have hBr:=Nat.lt_of_lt_of_le hB hb.size;obtain ⟨m1,m2⟩:=e3;have hrx:x.row.length<=4096:=hrow x (List.mem_of_getElem? (bX HX.out).1);have k0:(0:Int)<=(k:Int):=by omega
   have k1:(k:Int)<(n:Int):=by omega
   obtain ⟨cs,hown,hcells⟩:=HF.out;have QC:Hid ((xs.take k).length=k):=hide (by rw[List.length_take,hx.len];omega);rw[QC.out]at hown;have HW:=hide hown;have hsz:=hb.size;have HRW:=hide (λg (h:u3.ownBlock=some g)=>(hown.lt g h).1);obtain ⟨rs,hrs,hsrc⟩:=Sl.cells e2;have hAx:Ax=none->nx=0:=λh=>by have:=e2.2.2.2.1 h;have:=e2.2.1;omega
   have hnx:nx<=4096:=by rw[<-e2.len];exact hrx
   have Xv:=qy hrs;have QJ:Hid (∀W,Below w.heap.size w W->Src W 3 Ax nx rs):=hide (λW hW=>⟨hsrc.1,λh0=>by
    obtain ⟨b',o',e,hc⟩:=hsrc.2 h0;refine ⟨b',o',e,λj u hu=>?_⟩;have hcj:=hc j u hu;exact (hW.cell (p:=⟨b',o'+j,none⟩) (block_lt_of_cell hcj)).trans hcj⟩)
   have WU:=hide hrs;have FR:=hide hcells;clear hown hcells hsrc hrs;go_wp2;go_region_held3 (λw'=>w'.cell? ⟨bl,off+k*2,none⟩=some (.slice Ax nx cx)/\w'.cell? ⟨bl,off+k*2+1,none⟩=some (.int .i64 x.count)) (first|exact ⟨e0,e1⟩|exact ⟨(hb2.cell (p:=⟨bl,off+k*2,none⟩) hB).trans e0,(hb2.cell (p:=⟨bl,off+k*2+1,none⟩) hB).trans e1⟩|exact ⟨(hb1.cell (p:=⟨bl,off+k*2,none⟩) hB).trans e0,(hb1.cell (p:=⟨bl,off+k*2+1,none⟩) hB).trans e1⟩|go_keep) (first|(refine bZ _ rfl (.const (.slice none 0 0)) (.tmp 16) 59 rfl w.heap.size 74 i1 _ 3 32 Tryz.underlying59 hj hy0 hy1 hy2 rfl (by decide) (.slice none 0 0) 0 [] rfl (World.ownsRow_nil _ _ _ _) Ax nx cx rs (by simp[Act.eval,Act.put]) hAx (by exact QJ.out _ ((hb.drew))) Xv (by simp only[maxLen];omega) (by omega) (by simp;omega) ?_;intro v0 w0 hown0 hg0 RJ;have hb1:Below w.heap.size wr w0:=((Below.refl w.heap.size wr).drew).grown hg0 (by simp;omega) (by simp[Value.ownBlock]);obtain ⟨A0,c0,rfl,hsl0,_⟩:=fE (S:=λ_=>False) (T:=New w w0 74) hown0 (lF WU.out) (λ_ h=>h.elim) (by rw[e2.len];omega) (λg hg ht=>⟨hg,ht⟩);rw[Nat.zero_add]at hsl0;have QI:=hide hsl0;have hbw0:Below wr.heap.size wr w0:=((Below.refl wr.heap.size wr).drew).grown hg0 (by simp) (by simp[Value.ownBlock]);have hsz0:w.heap.size<=w0.heap.size:=Nat.le_trans hsz hbw0.size;have yK:=hide (vK HW.out (λg hg=>hbw0.block g (HW.out.lt g hg).2));have Wp:=hide ((FR.out.keep ((Same.below hbw0).sub λk hk=>hk.2.lt)).mono λk (hk:New w wr 74 k)=>(⟨hk.1,hk.2.below hbw0⟩:New w w0 74 k));clear hsl0 hown0 hg0 RJ)|(refine bZ _ rfl (.tmp 11) (.tmp 24) 30 rfl w.heap.size 61 i0 _ 2 32 Tryz.underlying30 hi hz0 hz1 hz2 rfl (by decide) u3 k cs (by simp[Act.eval,Act.put]) (by first|exact nM (yK.out.alloc _)|exact yK.out.alloc _) (some ⟨w0.heap.size,0,none⟩) 1 1 [.slice A0 nx c0,.int .i64 x.count] (by simp[Act.eval,Act.put]) (by intro h;cases h) (by exact oq (by simp[go_sem]) (by simp[go_sem])) mO (by simp only[maxLen];omega) (by omega) (by simp;omega) ?_;intro v1 w1 hown1 hg1 qY;have hb2:Below w.heap.size wr w1:=(hb1.trans ((Below.refl w.heap.size w0).alloc hsz0 _)).grown hg1 (by simp;omega) HRW.out));have hf1:aB w w1 v1 (xs.take k++[x]):=aB.add (by rw[QC.out];exact yK.out) Wp.out QI.out ⟨m1,m2⟩ (λk hk hne=>(hg1.block k (by simp;omega) (λe=>hne e.symm)).trans (Below.heap_alloc _ _ _ hk)) (by rw[QC.out];exact hown1);have Wt:=hide hf1;have hbw:=hb.trans hb2;clear hf1 hown1 hg1 qY;go_wp2;go_roundw
   case rel=>exact ⟨k+1,by omega,by go_num,by rw[aV HX.out];exact Wt.out,hbw⟩
   case measure=>simp[RowKit.intOf];omega
  ·have Zh:Hid (aB w wr u3 xs):=hide (by
    have h:=HF.out;rw[List.take_of_length_le (by rw[hx.len];omega)]at h;exact h)
   go_wp2;go_ret;exact ⟨⟨_,rfl,Zh.out⟩,hb⟩
end Go.Proofs.YtggejcekmehocaaGreatDoor
