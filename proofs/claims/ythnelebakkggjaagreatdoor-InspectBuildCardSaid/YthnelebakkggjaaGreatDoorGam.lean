/-
  warehouseworld.Value: a value that fits a column. Package bag: merge, Add. (Printed by gen_bagm.py.)
-/
import Derived.Test.YthnelebakkggjaaGreatDoorGal
namespace Go.Proofs.YthnelebakkggjaaGreatDoor
set_option maxHeartbeats 8000000
set_option maxRecDepth 100000
open Go.RowKit
set_option linter.unusedSimpArgs false
set_option linter.unusedVariables false
theorem rR {w W:World}{row:Option Nat}{b o:Nat}{v:Value}(h:w.grownBy W row)(hb:w.heap.size<=b):w.grownBy (W.setCell ⟨b,o,none⟩ v) row:=
 ⟨h.os,h.tape,h.output,by have:=h.size;simpa using this,λk a c=>(Below.heap_setCell _ _ _ k (λe=>by have e:k=b:=e;omega)).trans (h.block k a c)⟩
theorem BM {w:World}{row:Option Nat}(o a:Obj):w.grownBy ((w.alloc o).alloc a) row:=Below.grows below_alloc2 _
structure VS (w W:World) (gb:Nat) (A:Option Addr) (n c:Nat) (l:List Int) (i:Nat) (nm:ByteArray) (kd:Int) (nl:Bool):Prop where
 k:W.cell? ⟨w.heap.size,1,none⟩=some (.int .i64 kd)
 u:W.cell? ⟨w.heap.size,2,none⟩=some (.bool nl)
 blk:gW W (w.heap.size+1) 67 3
 num:Num W gb A n c l i
 grown:w.grownBy W (some gb)
 low:gb<w.heap.size
section
variable {w W d:World}{gb:Nat}{A:Option Addr}{n c:Nat}{l:List Int}{i j:Nat}{nm:ByteArray}{kd:Int}{nl:Bool}
theorem VS.made (h:Num w gb A n c l i)(nm:ByteArray)(kd:Int)(nl:Bool):VS w ((w.alloc (.cells #[.string nm,.int .i64 kd,.bool nl] 51)).alloc (.cells #[.int .i64 0,.int .i64 0,.string ⟨#[]⟩] 67)) gb A n c l i nm kd nl:=by
 have a:=wH (CZ w (.cells #[.string nm,.int .i64 kd,.bool nl] 51) (.cells #[.int .i64 0,.int .i64 0,.string ⟨#[]⟩] 67));have e:=gW.made (w.alloc (.cells #[.string nm,.int .i64 kd,.bool nl] 51)) #[.int .i64 0,.int .i64 0,.string ⟨#[]⟩] 67 3 rfl;rw[World.size_alloc]at e;exact⟨a 1 _ rfl,a 2 _ rfl,e,h.b below_alloc2,BM _ _,h.lt⟩
theorem VS.step (h:VS w W gb A n c l i nm kd nl)(b:W.grownBy d (some gb))(q:Num d gb A n c l j):VS w d gb A n c l j nm kd nl:=by
 have o:=h.low;have hs:w.heap.size<W.heap.size:=lt_of_cell h.k;have hb: ∀k,w.heap.size<=k->k<W.heap.size->d.heap[k]?=W.heap[k]?:=λk r g=>b.block k g (λe=>by injection e with e;omega);obtain⟨f,m,p⟩:=h.blk;exact⟨(World.cell?_of_block (a:=⟨w.heap.size,1,none⟩) (hb _ IK hs)).trans h.k,(World.cell?_of_block (a:=⟨w.heap.size,2,none⟩) (hb _ IK hs)).trans h.u,
  ⟨f,(hb _ (Nat.le_succ _) h.blk.lt).trans m,p⟩,q,h.grown.trans b,o⟩
theorem VS.b (h:VS w W gb A n c l i nm kd nl)(hb:Below W.heap.size W d):VS w d gb A n c l i nm kd nl:=h.step (Below.grows hb _) (h.num.b hb)
theorem VS.store (h:VS w W gb A n c l i nm kd nl)(a b:Int)(s:ByteArray):
  (∀j v,[Value.int .i64 a,Value.int .i64 b,Value.string s][j]?=some v->(((W.setCell ⟨w.heap.size+1,0,none⟩ (.int .i64 a)).setCell ⟨w.heap.size+1,1,none⟩ (.int .i64 b)).setCell ⟨w.heap.size+1,2,none⟩ (.string s)).cell? ⟨w.heap.size+1,j,none⟩=some v)/\
  Num (((W.setCell ⟨w.heap.size+1,0,none⟩ (.int .i64 a)).setCell ⟨w.heap.size+1,1,none⟩ (.int .i64 b)).setCell ⟨w.heap.size+1,2,none⟩ (.string s)) gb A n c l i/\
  w.grownBy (((W.setCell ⟨w.heap.size+1,0,none⟩ (.int .i64 a)).setCell ⟨w.heap.size+1,1,none⟩ (.int .i64 b)).setCell ⟨w.heap.size+1,2,none⟩ (.string s)) (some gb):=by
 have p:=h.low;obtain⟨q,f⟩:=h.blk.cell (o:=0) Ho;obtain⟨r,g⟩:=h.blk.cell (o:=1) Ho;obtain⟨t,m⟩:=h.blk.cell (o:=2) Ho;exact⟨fM f g m,((h.num.grown eY (λk e=>by injection e with e;omega)).grown eY (λk e=>by injection e with e;omega)).grown eY (λk e=>by injection e with e;omega),
  rR (rR (rR h.grown (Nat.le_succ _)) (Nat.le_succ _)) (Nat.le_succ _)⟩
end
theorem Da (w:World):In (w.alloc (.cells #[.string ⟨#[]⟩,.string ⟨#[97]⟩,.string ⟨#[98]⟩,.string ⟨#[105,116,39,115]⟩,.string ⟨#[122,122]⟩] 9)) (some ⟨w.heap.size,0,none⟩) 5 5 [(⟨#[]⟩:ByteArray),⟨#[97]⟩,⟨#[98]⟩,⟨#[105,116,39,115]⟩,⟨#[122,122]⟩]:=by
 have h: ∀(xs:List ByteArray) (W:World) (S:Nat->Prop),(∀x∈xs,x.size<=9223372036854775807)->Cells W S (xs.map Value.string) xs:=λxs=>by
  induction xs with
  |nil=>intro W S _;rfl
  |cons x l c=>intro W S a;exact⟨[.string x],_,rfl,⟨rfl,a x II⟩,c W S λy b=>a y (by simp[b])⟩
 exact mI (heap_alloc_new w _) (h [⟨#[]⟩,⟨#[97]⟩,⟨#[98]⟩,⟨#[105,116,39,115]⟩,⟨#[122,122]⟩] _ _ (by decide)) rfl (by decide)
theorem FJ (w:World)(gb:Nat)(A:Option Addr)(n c:Nat)(l:List Int)(i:Nat)(W:Num w gb A n c l i)(nm:ByteArray)(kd:Int)(nl:Bool)(R:(⟨nm,kd,nl⟩:Col).good):
  Calls Tryz.prog 75 #[.agg #[.string nm,.int .i64 kd,.bool nl],.pointer (some ⟨gb,0,none⟩)] w
   λe w'=>(∃v j,e=.returned (.agg #[.int .i64 v.kind,.int .i64 v.num,.string v.str])/\Fits ⟨nm,kd,nl⟩ v/\Num w' gb A n c l j)/\w.grownBy w' (some gb):=by
 have F:=Hm R;have d:=Hm (VS.made W nm kd nl);have X:kd=1\/kd=2\/kd=3\/kd=4:=by have:=R.2;show kd=1\/_;have h1:1<=kd:=this.1;have h2:kd<=4:=this.2;omega
 clear R;go_enter Tryz.func75,Tryz.ntmps75;have Z:=d.o.k;have C:=d.o.u;have aa:=W.lt;cases nl
 ·rcases X with rfl|rfl|rfl|rfl
  ·go_wp2_with fail;refine(kC _ gb A n c l _ d.o.num 2 Ho).mono ?_;rintro e B ⟨⟨v,j,rfl,D,m,h⟩,g⟩;have m:=m Ho;have d:=Hm (d.o.step g h);clear h g;have b0:=d.o.blk.frozen 0;have b1:=d.o.blk.frozen 1;have b2:=d.o.blk.frozen 2;obtain⟨C,G⟩:=d.o.blk.cell (o:=0) Ho;obtain⟨H,p⟩:=d.o.blk.cell (o:=1) Ho;obtain⟨I,q⟩:=d.o.blk.cell (o:=2) Ho;go_wp2;obtain⟨r,s,t⟩:=d.o.store 1 v ⟨#[]⟩;refine bodyPost_ret (v:=.agg #[.int .i64 1,.int .i64 v,.string ⟨#[]⟩]) (fQ (cs:=[.int .i64 1,.int .i64 v,.string ⟨#[]⟩]) rfl _ _ (w.heap.size+1) _ rfl r Tryz.underlying67 rfl (by kernel_rfl)) rfl ⟨⟨⟨1,v,⟨#[]⟩⟩,_,rfl,mY F.o (Bb D Ho),s⟩,t⟩
  ·go_wp2_with fail;refine(kC _ gb A n c l _ d.o.num 7 Ho).mono ?_;rintro e B ⟨⟨v,j,rfl,D,m,h⟩,g⟩;have m:=m Ho;have q7:IntKind.i64.wrap (v-1)=v-1:=IntWalk.i64_in _ Ho;have d:=Hm (d.o.step g h);clear h g;have b0:=d.o.blk.frozen 0;have b1:=d.o.blk.frozen 1;have b2:=d.o.blk.frozen 2;obtain⟨C,G⟩:=d.o.blk.cell (o:=0) Ho;obtain⟨H,p⟩:=d.o.blk.cell (o:=1) Ho;obtain⟨I,q⟩:=d.o.blk.cell (o:=2) Ho;go_wp2;obtain⟨r,s,t⟩:=d.o.store 2 (v-1) ⟨#[]⟩;refine bodyPost_ret (v:=.agg #[.int .i64 2,.int .i64 (v-1),.string ⟨#[]⟩]) (fQ (cs:=[.int .i64 2,.int .i64 (v-1),.string ⟨#[]⟩]) rfl _ _ (w.heap.size+1) _ rfl r Tryz.underlying67 rfl (by kernel_rfl)) rfl ⟨⟨⟨2,(v-1),⟨#[]⟩⟩,_,rfl,mY F.o (Dn Ho Ho),s⟩,t⟩
  ·go_wp2_with fail;have d:=Hm (d.o.b (eB (o:=.cells #[.string ⟨#[]⟩,.string ⟨#[97]⟩,.string ⟨#[98]⟩,.string ⟨#[105,116,39,115]⟩,.string ⟨#[122,122]⟩] 9)));have O:=Da ((w.alloc (.cells #[.string nm,.int .i64 3,.bool false] 51)).alloc (.cells #[.int .i64 0,.int .i64 0,.string ⟨#[]⟩] 67));refine(kC _ gb A n c l _ d.o.num 5 Ho).mono ?_;rintro e B ⟨⟨v,j,rfl,D,m,h⟩,g⟩;have m:=m Ho;obtain⟨f,rfl⟩: ∃f:Nat,v=(f:Int):=⟨v.toNat,Ho⟩;obtain⟨b,off,x,e,J,z,c0,c1⟩:=O.str (k:=f) Ho;injection e with e;injection e with p q;have K:gb<((w.alloc (.cells #[.string nm,.int .i64 3,.bool false] 51)).alloc (.cells #[.int .i64 0,.int .i64 0,.string ⟨#[]⟩] 67)).heap.size:=by simp;omega
   have c0:B.cell? ⟨((w.alloc (.cells #[.string nm,.int .i64 3,.bool false] 51)).alloc (.cells #[.int .i64 0,.int .i64 0,.string ⟨#[]⟩] 67)).heap.size,0+f,none⟩=some (.string x):=by
    rw[p,q];exact(World.cell?_of_block (a:=⟨b,off+f,none⟩) (g.block b J (λe=>by injection e with e;omega))).trans c0
   rw[Nat.zero_add]at c0;have Q:Hl (Made 3 ⟨3,0,x⟩):=Hm (Bc (by
    have S:=fE z.o;have E: ∀y∈[(⟨#[]⟩:ByteArray),⟨#[97]⟩,⟨#[98]⟩,⟨#[105,116,39,115]⟩,⟨#[122,122]⟩],y.size<=64:=by decide
    exact E x S))
   have U:(0:Int)<=(f:Int):=by omega
   have V:(f:Int)<5:=by omega
   have d:=Hm (d.o.step g h);clear h g O z p q K;simp only[World.size_alloc]at c0;have b0:=d.o.blk.frozen 0;have b1:=d.o.blk.frozen 1;have b2:=d.o.blk.frozen 2;obtain⟨C,G⟩:=d.o.blk.cell (o:=0) Ho;obtain⟨H,p⟩:=d.o.blk.cell (o:=1) Ho;obtain⟨I,q⟩:=d.o.blk.cell (o:=2) Ho;go_wp2;obtain⟨r,s,t⟩:=d.o.store 3 0 x;refine bodyPost_ret (v:=.agg #[.int .i64 3,.int .i64 0,.string x]) (fQ (cs:=[.int .i64 3,.int .i64 0,.string x]) rfl _ _ (w.heap.size+1) _ rfl r Tryz.underlying67 rfl (by kernel_rfl)) rfl ⟨⟨⟨3,0,x⟩,_,rfl,mY F.o Q.o,s⟩,t⟩
  ·go_wp2_with fail;refine(vL _).mono ?_;rintro e W1 ⟨⟨li,rfl,N,E⟩,M⟩;have d:=Hm (d.o.b M);go_wp2_with fail;refine(kC _ gb A n c l _ d.o.num 16 Ho).mono ?_;rintro e B ⟨⟨v,j,rfl,D,m,h⟩,g⟩;have m:=m Ho;obtain⟨f,rfl⟩: ∃f:Nat,v=(f:Int):=⟨v.toNat,Ho⟩;obtain⟨b,off,x,e,J,z,c0,c1⟩:=N.int (k:=f) Ho;injection e with e;injection e with p q;have K:gb<((w.alloc (.cells #[.string nm,.int .i64 4,.bool false] 51)).alloc (.cells #[.int .i64 0,.int .i64 0,.string ⟨#[]⟩] 67)).heap.size:=by simp;omega
   have c0:B.cell? ⟨((w.alloc (.cells #[.string nm,.int .i64 4,.bool false] 51)).alloc (.cells #[.int .i64 0,.int .i64 0,.string ⟨#[]⟩] 67)).heap.size,0+f,none⟩=some (.int .i64 x):=by
    rw[p,q];exact(World.cell?_of_block (a:=⟨b,off+f,none⟩) (g.block b J (λe=>by injection e with e;omega))).trans c0
   rw[Nat.zero_add]at c0;have P:=E x (fE z.o);have U:(0:Int)<=(f:Int):=by omega
   have V:(f:Int)<16:=by omega
   have d:=Hm (d.o.step g h);clear h g E z N M p q K;simp only[World.size_alloc]at c0;have b0:=d.o.blk.frozen 0;have b1:=d.o.blk.frozen 1;have b2:=d.o.blk.frozen 2;obtain⟨C,G⟩:=d.o.blk.cell (o:=0) Ho;obtain⟨H,p⟩:=d.o.blk.cell (o:=1) Ho;obtain⟨I,q⟩:=d.o.blk.cell (o:=2) Ho;go_wp2;obtain⟨r,s,t⟩:=d.o.store 4 x ⟨#[]⟩;refine bodyPost_ret (v:=.agg #[.int .i64 4,.int .i64 x,.string ⟨#[]⟩]) (fQ (cs:=[.int .i64 4,.int .i64 x,.string ⟨#[]⟩]) rfl _ _ (w.heap.size+1) _ rfl r Tryz.underlying67 rfl (by kernel_rfl)) rfl ⟨⟨⟨4,x,⟨#[]⟩⟩,_,rfl,mY F.o (Bd P.1 P.2),s⟩,t⟩
 ·go_wp2_with fail;refine(kC _ gb A n c l _ d.o.num 5 Ho).mono ?_;rintro e L ⟨⟨v,j,rfl,D,m,h⟩,g⟩;have d:=Hm (d.o.step g h);clear h g Z C;have Z:=d.o.k;have C:=d.o.u;have Y:=d.o.num.lt;by_cases T:v=0
  ·subst T;have b0:=d.o.blk.frozen 0;have b1:=d.o.blk.frozen 1;have b2:=d.o.blk.frozen 2;obtain⟨C,G⟩:=d.o.blk.cell (o:=0) Ho;obtain⟨H,p⟩:=d.o.blk.cell (o:=1) Ho;obtain⟨I,q⟩:=d.o.blk.cell (o:=2) Ho;go_wp2;obtain⟨r,s,t⟩:=d.o.store 0 0 ⟨#[]⟩;refine bodyPost_ret (v:=.agg #[.int .i64 0,.int .i64 0,.string ⟨#[]⟩]) (fQ (cs:=[.int .i64 0,.int .i64 0,.string ⟨#[]⟩]) rfl _ _ (w.heap.size+1) _ rfl r Tryz.underlying67 rfl (by kernel_rfl)) rfl ⟨⟨⟨0,0,⟨#[]⟩⟩,_,rfl,Gx rfl,s⟩,t⟩
  ·have qv:(v==0)=false:=by simpa using T
   clear T;rcases X with rfl|rfl|rfl|rfl
   ·go_wp2_with fail;refine(kC _ gb A n c l _ d.o.num 2 Ho).mono ?_;rintro e B ⟨⟨v,j,rfl,D,m,h⟩,g⟩;have m:=m Ho;have d:=Hm (d.o.step g h);clear h g;have b0:=d.o.blk.frozen 0;have b1:=d.o.blk.frozen 1;have b2:=d.o.blk.frozen 2;obtain⟨C,G⟩:=d.o.blk.cell (o:=0) Ho;obtain⟨H,p⟩:=d.o.blk.cell (o:=1) Ho;obtain⟨I,q⟩:=d.o.blk.cell (o:=2) Ho;go_wp2;obtain⟨r,s,t⟩:=d.o.store 1 v ⟨#[]⟩;refine bodyPost_ret (v:=.agg #[.int .i64 1,.int .i64 v,.string ⟨#[]⟩]) (fQ (cs:=[.int .i64 1,.int .i64 v,.string ⟨#[]⟩]) rfl _ _ (w.heap.size+1) _ rfl r Tryz.underlying67 rfl (by kernel_rfl)) rfl ⟨⟨⟨1,v,⟨#[]⟩⟩,_,rfl,mY F.o (Bb D Ho),s⟩,t⟩
   ·go_wp2_with fail;refine(kC _ gb A n c l _ d.o.num 7 Ho).mono ?_;rintro e B ⟨⟨v,j,rfl,D,m,h⟩,g⟩;have m:=m Ho;have q7:IntKind.i64.wrap (v-1)=v-1:=IntWalk.i64_in _ Ho;have d:=Hm (d.o.step g h);clear h g;have b0:=d.o.blk.frozen 0;have b1:=d.o.blk.frozen 1;have b2:=d.o.blk.frozen 2;obtain⟨C,G⟩:=d.o.blk.cell (o:=0) Ho;obtain⟨H,p⟩:=d.o.blk.cell (o:=1) Ho;obtain⟨I,q⟩:=d.o.blk.cell (o:=2) Ho;go_wp2;obtain⟨r,s,t⟩:=d.o.store 2 (v-1) ⟨#[]⟩;refine bodyPost_ret (v:=.agg #[.int .i64 2,.int .i64 (v-1),.string ⟨#[]⟩]) (fQ (cs:=[.int .i64 2,.int .i64 (v-1),.string ⟨#[]⟩]) rfl _ _ (w.heap.size+1) _ rfl r Tryz.underlying67 rfl (by kernel_rfl)) rfl ⟨⟨⟨2,(v-1),⟨#[]⟩⟩,_,rfl,mY F.o (Dn Ho Ho),s⟩,t⟩
   ·go_wp2_with fail;have d:=Hm (d.o.b (eB (o:=.cells #[.string ⟨#[]⟩,.string ⟨#[97]⟩,.string ⟨#[98]⟩,.string ⟨#[105,116,39,115]⟩,.string ⟨#[122,122]⟩] 9)));have O:=Da L;refine(kC _ gb A n c l _ d.o.num 5 Ho).mono ?_;rintro e B ⟨⟨v,j,rfl,D,m,h⟩,g⟩;have m:=m Ho;obtain⟨f,rfl⟩: ∃f:Nat,v=(f:Int):=⟨v.toNat,Ho⟩;obtain⟨b,off,x,e,J,z,c0,c1⟩:=O.str (k:=f) Ho;injection e with e;injection e with p q;have K:gb<L.heap.size:=Y;have c0:B.cell? ⟨L.heap.size,0+f,none⟩=some (.string x):=by
     rw[p,q];exact(World.cell?_of_block (a:=⟨b,off+f,none⟩) (g.block b J (λe=>by injection e with e;omega))).trans c0
    rw[Nat.zero_add]at c0;have Q:Hl (Made 3 ⟨3,0,x⟩):=Hm (Bc (by
     have S:=fE z.o;have E: ∀y∈[(⟨#[]⟩:ByteArray),⟨#[97]⟩,⟨#[98]⟩,⟨#[105,116,39,115]⟩,⟨#[122,122]⟩],y.size<=64:=by decide
     exact E x S))
    have U:(0:Int)<=(f:Int):=by omega
    have V:(f:Int)<5:=by omega
    have d:=Hm (d.o.step g h);clear h g O z p q K;have b0:=d.o.blk.frozen 0;have b1:=d.o.blk.frozen 1;have b2:=d.o.blk.frozen 2;obtain⟨C,G⟩:=d.o.blk.cell (o:=0) Ho;obtain⟨H,p⟩:=d.o.blk.cell (o:=1) Ho;obtain⟨I,q⟩:=d.o.blk.cell (o:=2) Ho;go_wp2;obtain⟨r,s,t⟩:=d.o.store 3 0 x;refine bodyPost_ret (v:=.agg #[.int .i64 3,.int .i64 0,.string x]) (fQ (cs:=[.int .i64 3,.int .i64 0,.string x]) rfl _ _ (w.heap.size+1) _ rfl r Tryz.underlying67 rfl (by kernel_rfl)) rfl ⟨⟨⟨3,0,x⟩,_,rfl,mY F.o Q.o,s⟩,t⟩
   ·go_wp2_with fail;refine(vL _).mono ?_;rintro e W1 ⟨⟨li,rfl,N,E⟩,M⟩;have d:=Hm (d.o.b M);go_wp2_with fail;refine(kC _ gb A n c l _ d.o.num 16 Ho).mono ?_;rintro e B ⟨⟨v,j,rfl,D,m,h⟩,g⟩;have m:=m Ho;obtain⟨f,rfl⟩: ∃f:Nat,v=(f:Int):=⟨v.toNat,Ho⟩;obtain⟨b,off,x,e,J,z,c0,c1⟩:=N.int (k:=f) Ho;injection e with e;injection e with p q;have K:gb<L.heap.size:=Y;have c0:B.cell? ⟨L.heap.size,0+f,none⟩=some (.int .i64 x):=by
     rw[p,q];exact(World.cell?_of_block (a:=⟨b,off+f,none⟩) (g.block b J (λe=>by injection e with e;omega))).trans c0
    rw[Nat.zero_add]at c0;have P:=E x (fE z.o);have U:(0:Int)<=(f:Int):=by omega
    have V:(f:Int)<16:=by omega
    have d:=Hm (d.o.step g h);clear h g E z N M p q K;have b0:=d.o.blk.frozen 0;have b1:=d.o.blk.frozen 1;have b2:=d.o.blk.frozen 2;obtain⟨C,G⟩:=d.o.blk.cell (o:=0) Ho;obtain⟨H,p⟩:=d.o.blk.cell (o:=1) Ho;obtain⟨I,q⟩:=d.o.blk.cell (o:=2) Ho;go_wp2;obtain⟨r,s,t⟩:=d.o.store 4 x ⟨#[]⟩;refine bodyPost_ret (v:=.agg #[.int .i64 4,.int .i64 x,.string ⟨#[]⟩]) (fQ (cs:=[.int .i64 4,.int .i64 x,.string ⟨#[]⟩]) rfl _ _ (w.heap.size+1) _ rfl r Tryz.underlying67 rfl (by kernel_rfl)) rfl ⟨⟨⟨4,x,⟨#[]⟩⟩,_,rfl,mY F.o (Bd P.1 P.2),s⟩,t⟩
def sg (s:Int)(l:List Ent):List Ent:=l.map λx=>⟨x.row,s*x.count⟩
theorem MM (l:List Ent):sg 1 l=l:=by
 have:(λx:Ent=>(⟨x.row,1*x.count⟩:Ent))=id:=by
  funext x
  obtain⟨a,b⟩:=x;simp
 rw[sg,this,List.map_id]
def lL (M rest:List Ent)(ok:Bool)(zs:List Ent):Prop:=
 ∃ws,M=ws++rest/\(ok=true->zs=iE ws/\ ∀x∈ws, -65536<=x.count/\x.count<=65536)/\(ok=false-> ∃x∈ws,x.count < -65536\/65536<x.count)
theorem lL.start (M:List Ent):lL M M true []:=⟨[],rfl,λ_=>⟨rfl,by simp⟩,λh=>by cases h⟩
theorem lL.step {M rest c zs:List Ent}{x:Ent}(h:lL M rest true zs)(e:rest=x::c):lL M c (rY zs x.row x.count).1 (rY zs x.row x.count).2:=by
 obtain⟨ws,d,f,_⟩:=h;obtain⟨g,i⟩:=f rfl;subst g e;refine⟨ws++[x],by rw[d];simp,λq=>?_,λq=>?_⟩
 ·rw[rY]at q⊢
  split at q
  ·cases q
  ·rename_i b;rw[if_neg b];refine⟨?_,λy a=>?_⟩
   ·show(if x.count=0 then iE ws else iE ws++[⟨x.row,x.count⟩])=iE (ws++[x]);rw[show iE (ws++[x])=iE ws++iE [x] from List.filter_append ..]
    split
    ·rename_i q;simp[iE,q]
    ·rename_i q;simp[iE,q]
   ·rcases List.mem_append.1 a with a|a
    ·exact i y a
    ·simp at a;subst a;omega
 ·rw[rY]at q
  split at q
  ·rename_i b;exact⟨x,by simp,b⟩
  ·cases q
theorem uT: ∀(l:List Ent) (m:Nat),(∃x∈l,x.count < -65536\/65536<x.count)->iN m l=true
 | [],m,h=>by simp at h
 |x::l,m,h=>by
  rw[iN];by_cases q:x.count=0
  ·rw[if_pos q];refine uT l m ?_;obtain⟨y,a,h⟩:=h;rcases List.mem_cons.1 a with rfl|a
   ·omega
   ·exact⟨y,a,h⟩
  ·rw[if_neg q];obtain⟨y,a,h⟩:=h;rcases List.mem_cons.1 a with rfl|a
   ·rcases h with h|h<;>simp[h]
   ·rw[uT l (m+1) ⟨y,a,h⟩];simp
def ry (M:List Ent):Int×List Ent:=if iN 0 M=true then(2,[]) else(0,iE M)
theorem lL.bad {M rest zs:List Ent}(h:lL M rest false zs):ry M=(2,[]):=by
 obtain⟨ws,a,_,b⟩:=h;obtain⟨x,c,h⟩:=b rfl;rw[ry,if_pos (uT _ _ ⟨x,by rw[a];simp[c],h⟩)]
theorem lL.fin {M zs:List Ent}(h:lL M [] true zs):ry M=if 4096<zs.length then(2,[]) else(0,zs):=by
 obtain⟨ws,b,c,_⟩:=h;obtain⟨d,e⟩:=c rfl;rw[List.append_nil]at b;subst b d;have a:=og (iE M) 0 (lw _) Ho;rw[lZ]at a;rw[ry];by_cases q:4096<(iE M).length
 ·rw[if_pos q,if_pos];cases g:iN 0 M
  ·have:=(a.1 g).2;omega
  ·rfl
 ·rw[if_neg q,if_neg];rw[a.2 ⟨λx f=>e x (AX x f),Ho⟩];simp
theorem GY {xs a M:List Ent}(h:lD M)(b: ∀r,cnt M r=cnt xs r+cnt a r):ry M=mE (xs++a):=by
 rw[Bw h λr=>by rw[b,oD]];rfl
theorem tV (zs:List Ent)(row:List Val)(k:Int):(rY zs row k).2.length<=zs.length+1:=by
 rw[rY]
 split
 ·simp
 ·simp only
  split
  ·omega
  ·simp
theorem ul {xs:List Ent}{x:Ent}(h:xs.drop 0=x::xs.drop 1):xs=x::xs.drop 1:=by simpa using h
theorem Gb {s:Int}{xs l:List Ent}{x:Ent}(h:xs=x::l):sg s xs=⟨x.row,s*x.count⟩::sg s l:=by rw[h];rfl
theorem Be (w:World)(s:Int)(hs:s=1\/s= -1)(A A':Option Addr)(n n' c c':Nat)(xs L:List Ent)(hx:In w A n c xs)(hy:In w A' n' c' L)(hn:n+n'<=1048576)(aQ:uE 65536 xs)(aR:uE 65536 L)(aV: ∀x∈xs,x.row.length<=12)(aW: ∀x∈L,x.row.length<=12):
  Calls Tryz.prog 46 #[.slice A n c,.slice A' n' c',.int .i64 s] w
   λe w'=>(∃v,e=.returned (.tuple #[v,.int .i64 (ry (fK xs (sg s L))).1])/\OE w.heap.size w' v (ry (fK xs (sg s L))).2)/\Below w.heap.size w w':=by
 obtain⟨M,hM⟩: ∃M,fK xs (sg s L)=M:=⟨_,rfl⟩;rw[hM];obtain⟨R,hR⟩: ∃R,ry M=R:=⟨_,rfl⟩;rw[hR];have HR:=Hm hR;have HM:=Hm hM;have aO:=Hm aV;have aP:=Hm aW;clear hM hR aV aW;go_enter Tryz.func46,Tryz.ntmps46;go_wp2;go_loopw [0,1,8,9] (λa b o bg wr=> ∃(B B':Option Addr) (m i d J:Nat) (g vs zs:List Ent) (ok:Bool),a=.slice B m d/\b=.slice B' i J/\bg=.bool ok/\In w B m d g/\In w B' i J vs/\m+i+zs.length<=n+n'/\
   (∀x∈g,x∈xs)/\(∀x∈vs,x∈L)/\lL M (fK g (sg s vs)) ok zs/\OE w.heap.size wr o zs/\Below w.heap.size w wr)
  (λa b _ _ _=>vW a+vW b)
 case atStart=>exact⟨A,A',n,n',c,c',xs,L,[],true,rfl,rfl,rfl,hx,hy,by simp,λ_ h=>h,λ_ h=>h,by rw[HM.o];exact lL.start M,OL.nil IK,IJ⟩
 case round=>
  obtain⟨B,B',m,i,d,J,g,vs,zs,ok,rfl,rfl,rfl,aK,aM,bh,aY,aZ,aX,aU,hb⟩:=hrel;have aa:=Hm aX;have HO:=Hm aU;have f:=Hm hb;have S:=Hm aK;have T:=Hm aM;have ab:=Hm aY;have ac:=Hm aZ;have bi:IntKind.i64.wrap ((m:Int)+(i:Int))=(m:Int)+(i:Int):=IntWalk.i64_in _ Ho;clear aX aU aY aZ;by_cases bj:m+i=0
  ·have h1:m=0:=by omega
   have h2:i=0:=by omega
   subst h1 h2;have aJ:g=[]:=List.eq_nil_of_length_eq_zero aK.len;have aL:vs=[]:=List.eq_nil_of_length_eq_zero aM.len;clear aK aM;subst aJ aL;cases ok
   ·have HF:=Hm (HR.o.symm.trans aa.o.bad);obtain rfl:=HF.o;go_wp2;all_goals(try(exfalso;go_light;simp_all;done));go_ret2;exact⟨⟨_,rfl,OL.nil f.o.size⟩,f.o⟩
   ·have HF:=Hm (HR.o.symm.trans (lL.fin (by have h:=aa.o;rwa [show fK [] (sg s [])=[] from rfl]at h)));obtain⟨A9,c9,hv,aS⟩:=HO.o.inn;have a7:=aS.le;subst hv;clear aS;go_wp2_with fail;refine(IR _ (.slice A9 zs.length c9) zs.length c9 A9 a7).mono ?_;rintro e K ⟨rfl,u⟩;have am:=Hm u;clear u;by_cases h4:4096<zs.length
    ·have ad:=HF.o;rw[if_pos h4]at ad;obtain rfl:=ad;rw[if_pos h4];go_wp2;all_goals(try(exfalso;go_light;simp_all;done));go_ret2;exact⟨⟨_,rfl,OL.nil (eu f.o am.o).size⟩,eu f.o am.o⟩
    ·have ad:=HF.o;rw[if_neg h4]at ad;obtain rfl:=ad;rw[if_neg h4];go_wp2;all_goals(try(exfalso;go_light;simp_all;done));go_ret2;exact⟨⟨_,rfl,HO.o.b am.o⟩,eu f.o am.o⟩
  have bm:(0:Int)<(m:Int)+(i:Int):=by omega
  cases ok
  ·have HF:=Hm (HR.o.symm.trans aa.o.bad);obtain rfl:=HF.o;go_wp2;all_goals(try(exfalso;go_light;simp_all;done));go_ret2;exact⟨⟨_,rfl,OL.nil f.o.size⟩,f.o⟩
  have al:zs.length<1048576:=by omega
  by_cases hm:0<m
  ·by_cases aH:0<i
   ·obtain⟨D,off,x,rfl,G,HX,Ax,An,Ac,q,r,e2,e3⟩:=S.o.ent hm;simp only[Nat.zero_mul,Nat.add_zero]at q r;replace q:=eG f.o G q;replace r:=eG f.o G r;have av:=Nat.lt_of_lt_of_le G f.o.size;have a8:(0:Int)<(m:Int):=by omega
    have ba:(1:Int)<=(m:Int):=by omega
    have bc:(m:Int)<=(d:Int):=by have:=S.o.cap;omega
    have be:((m:Int)==0)=false:=by simp;omega
    have aq:=Hm (ul HX.o);have ax:=Hm (Sl.tail S.o (k:=1) Ho);have aj:=ab.o x (fE HX.o);have a3:=aQ x aj;have a4:=aO.o x aj;have ao:Hl (∀y∈g.drop 1,y∈xs):=Hm λy hy=>ab.o y (List.mem_of_mem_drop hy);have ah:=In.b e2 f.o;have ar:An<=4096:=by have:=e2.len;omega
    obtain⟨H,of,y,rfl,I,HY,Yx,Yn,Yc,t,f1,f2,f3⟩:=T.o.ent aH;simp only[Nat.zero_mul,Nat.add_zero]at t f1;replace t:=eG f.o I t;replace f1:=eG f.o I f1;have au:=Nat.lt_of_lt_of_le I f.o.size;have a9:(0:Int)<(i:Int):=by omega
    have bb:(1:Int)<=(i:Int):=by omega
    have bd:(i:Int)<=(J:Int):=by have:=T.o.cap;omega
    have bf:((i:Int)==0)=false:=by simp;omega
    have aD:=Hm (ul HY.o);have ay:=Hm (Sl.tail T.o (k:=1) Ho);have ak:=ac.o y (fE HY.o);have aN:=aR y ak;have a6:=aP.o y ak;have ap:Hl (∀z∈vs.drop 1,z∈L):=Hm λz hz=>ac.o z (List.mem_of_mem_drop hz);have ai:=In.b f2 f.o;have aF:Yn<=4096:=by have:=f2.len;omega
    have an:=Hm (Gb (s:=s) aD.o);have a2:IntKind.i64.wrap (s*y.count)=s*y.count:=by
     rcases hs with rfl|rfl
     ·rw[Int.one_mul];exact IntWalk.i64_in _ Ho
     ·rw[Int.neg_mul,Int.one_mul];exact IntWalk.i64_in _ Ho
    have a5: -65536<=s*y.count/\s*y.count<=65536:=by
     rcases hs with rfl|rfl
     ·rw[Int.one_mul];exact aN
     ·rw[Int.neg_mul,Int.one_mul];omega
    go_wp2_with fail;go_region_held3 (λw'=>w'.cell? ⟨D,off,none⟩=some (.slice Ax An Ac)/\w'.cell? ⟨H,of,none⟩=some (.slice Yx Yn Yc)) (first|exact⟨q,t⟩|(have hq:=eF aG;exact⟨eG hq av q,eG hq au t⟩)) (first|(go_at_call 51;refine(oU _ Ax Yx An Yn Ac Yc x.row y.row (by exact ah) (by exact ai)).mono ?_;rintro e w2 ⟨rfl,aG⟩));have X:=eF aG;have az:=Hm (eu f.o X);replace q:=eG X av q;replace r:=eG X av r;replace t:=eG X au t;replace f1:=eG X au f1;have aB:=Hm (HO.o.b X);have aT:=ah.b X;have a1:=ai.b X;have aA:=Hm (oK x ⟨y.row,s*y.count⟩ (g.drop 1) (sg s (vs.drop 1)));have aC:Hl (fK g (sg s vs)=fK (x::g.drop 1) (⟨y.row,s*y.count⟩::sg s (vs.drop 1))):=Hm (by rw[<-aq.o,<-an.o]);clear aG X ah ai;obtain hc|hc|hc:eZ x.row y.row<0\/0<eZ x.row y.row\/eZ x.row y.row=0:=by omega
    ·have O:Hl (fK g (sg s vs)=⟨x.row,x.count⟩::fK (g.drop 1) (sg s (vs))):=Hm ((aC.o.trans aA.o).trans (by rw[if_pos hc];simp only[<-an.o]));have Q:=Hm (lL.step aa.o O.o);have P:=Hm (tV zs x.row (x.count));have ae:=Hm q;have af:=Hm r;have W:jP (x.count):=⟨Ho,Ho⟩;go_wp2_with fail;go_region_held3 (λV=>V.cell? ⟨D,off,none⟩=some (.slice Ax An Ac)/\V.cell? ⟨D,off+1,none⟩=some (.int .i64 x.count))
      (first|exact⟨q,r⟩|exact⟨(j.o.cell (p:=⟨D,off,none⟩) G).trans ae.o,(j.o.cell (p:=⟨D,off+1,none⟩) G).trans af.o⟩|go_keep)
      (first|(go_at_call 79;refine(vU _ w.heap.size _ zs (by exact aB.o.b (IJ).drew) _ _ _ x.row (by exact aT.b (IJ).drew) ar (x.count) W al).mono ?_;rintro e K ⟨⟨v3,rfl,E⟩,Y,u⟩;have C:=Hm E;have j:Hl (Below w.heap.size w2 K):=Hm ((IJ).drew.trans u);clear E Y u))
     have N:=Hm (az.o.trans j.o);have aw:=C.o.base;generalize rY zs x.row (x.count)=U at*;obtain⟨Z,F⟩:=U;clear q r;go_wp2;all_goals(try(exfalso;go_light;simp_all;done));go_roundw
     case rel=>
      refine⟨_,_,m-1,i,d-1,J,g.drop 1,vs,F,Z,by simp[Rep.size,jv],by simp[Rep.size,jv],rfl,ax.o,T.o,?_,ao.o,ac.o,Q.o,C.o,N.o⟩;have:F.length<=zs.length+1:=P.o;omega
     case measure=>simp[vW];omega
    ·have a0:¬eZ x.row y.row<0:=by omega
     have O:Hl (fK g (sg s vs)=⟨y.row,s*y.count⟩::fK g (sg s (vs.drop 1))):=Hm ((aC.o.trans aA.o).trans (by rw[if_neg a0,if_pos hc];simp only[<-aq.o]));have Q:=Hm (lL.step aa.o O.o);have P:=Hm (tV zs y.row (s*y.count));have aE:=Hm t;have ag:=Hm f1;have W:jP (s*y.count):=⟨Ho,Ho⟩;go_wp2_with fail;go_region_held3 (λV=>V.cell? ⟨H,of,none⟩=some (.slice Yx Yn Yc)/\V.cell? ⟨H,of+1,none⟩=some (.int .i64 y.count))
      (first|exact⟨t,f1⟩|exact⟨(j.o.cell (p:=⟨H,of,none⟩) I).trans aE.o,(j.o.cell (p:=⟨H,of+1,none⟩) I).trans ag.o⟩|go_keep)
      (first|(go_at_call 79;refine(vU _ w.heap.size _ zs (by exact aB.o.b (IJ).drew) _ _ _ y.row (by exact a1.b (IJ).drew) aF (s*y.count) W al).mono ?_;rintro e K ⟨⟨v3,rfl,E⟩,Y,u⟩;have C:=Hm E;have j:Hl (Below w.heap.size w2 K):=Hm ((IJ).drew.trans u);clear E Y u))
     have N:=Hm (az.o.trans j.o);have aw:=C.o.base;generalize rY zs y.row (s*y.count)=U at*;obtain⟨Z,F⟩:=U;clear t f1;go_wp2;all_goals(try(exfalso;go_light;simp_all;done));go_roundw
     case rel=>
      refine⟨_,_,m,i-1,d,J-1,g,vs.drop 1,F,Z,by simp[Rep.size,jv],by simp[Rep.size,jv],rfl,S.o,ay.o,?_,ab.o,ap.o,Q.o,C.o,N.o⟩;have:F.length<=zs.length+1:=P.o;omega
     case measure=>simp[vW];omega
    ·rw[hc];have bn:IntKind.i64.wrap (x.count+s*y.count)=x.count+s*y.count:=IntWalk.i64_in _ Ho;have O:Hl (fK g (sg s vs)=⟨x.row,x.count+s*y.count⟩::fK (g.drop 1) (sg s (vs.drop 1))):=Hm ((aC.o.trans aA.o).trans (by simp only;rw[if_neg Ho,if_neg Ho]));have Q:=Hm (lL.step aa.o O.o);have P:=Hm (tV zs x.row (x.count+s*y.count));have ae:=Hm q;have af:=Hm r;have ag:=Hm f1;have W:jP (x.count+s*y.count):=⟨Ho,Ho⟩;go_wp2_with fail;go_region_held3 (λV=>V.cell? ⟨D,off,none⟩=some (.slice Ax An Ac)/\V.cell? ⟨D,off+1,none⟩=some (.int .i64 x.count)/\V.cell? ⟨H,of+1,none⟩=some (.int .i64 y.count))
      (first|exact⟨q,r,f1⟩|exact⟨(j.o.cell (p:=⟨D,off,none⟩) G).trans ae.o,(j.o.cell (p:=⟨D,off+1,none⟩) G).trans af.o,(j.o.cell (p:=⟨H,of+1,none⟩) I).trans ag.o⟩|go_keep)
      (first|(go_at_call 79;refine(vU _ w.heap.size _ zs (by exact aB.o.b (IJ).drew) _ _ _ x.row (by exact aT.b (IJ).drew) ar (x.count+s*y.count) W al).mono ?_;rintro e K ⟨⟨v3,rfl,E⟩,Y,u⟩;have C:=Hm E;have j:Hl (Below w.heap.size w2 K):=Hm ((IJ).drew.trans u);clear E Y u))
     have N:=Hm (az.o.trans j.o);have aw:=C.o.base;generalize rY zs x.row (x.count+s*y.count)=U at*;obtain⟨Z,F⟩:=U;clear q r f1;go_wp2;go_quiet (fail);go_wp2;all_goals(try(exfalso;go_light;simp_all;done));go_roundw
     case rel=>
      refine⟨_,_,m-1,i-1,d-1,J-1,g.drop 1,vs.drop 1,F,Z,by simp[Rep.size,jv],by simp[Rep.size,jv],rfl,ax.o,ay.o,?_,ao.o,ap.o,Q.o,C.o.b (below_drewN IJ _),below_drewN N.o _⟩;have:F.length<=zs.length+1:=P.o;omega
     case measure=>simp[vW];omega
   ·have aI:i=0:=by omega
    subst aI;have aL:vs=[]:=List.eq_nil_of_length_eq_zero T.o.len;obtain⟨D,off,x,rfl,G,HX,Ax,An,Ac,q,r,e2,e3⟩:=S.o.ent hm;simp only[Nat.zero_mul,Nat.add_zero]at q r;replace q:=eG f.o G q;replace r:=eG f.o G r;have av:=Nat.lt_of_lt_of_le G f.o.size;have a8:(0:Int)<(m:Int):=by omega
    have ba:(1:Int)<=(m:Int):=by omega
    have bc:(m:Int)<=(d:Int):=by have:=S.o.cap;omega
    have be:((m:Int)==0)=false:=by simp;omega
    have aq:=Hm (ul HX.o);have ax:=Hm (Sl.tail S.o (k:=1) Ho);have aj:=ab.o x (fE HX.o);have a3:=aQ x aj;have a4:=aO.o x aj;have ao:Hl (∀y∈g.drop 1,y∈xs):=Hm λy hy=>ab.o y (List.mem_of_mem_drop hy);have ah:=In.b e2 f.o;have ar:An<=4096:=by have:=e2.len;omega
    have O:Hl (fK g (sg s vs)=⟨x.row,x.count⟩::fK (g.drop 1) (sg s (vs))):=Hm (by rw[aL];exact(congrArg (λl=>fK l []) aq.o).trans (oL _ _));have Q:=Hm (lL.step aa.o O.o);have P:=Hm (tV zs x.row (x.count));have ae:=Hm q;have af:=Hm r;have W:jP (x.count):=⟨Ho,Ho⟩;go_wp2_with fail;go_region_held3 (λV=>V.cell? ⟨D,off,none⟩=some (.slice Ax An Ac)/\V.cell? ⟨D,off+1,none⟩=some (.int .i64 x.count))
     (first|exact⟨q,r⟩|exact⟨(j.o.cell (p:=⟨D,off,none⟩) G).trans ae.o,(j.o.cell (p:=⟨D,off+1,none⟩) G).trans af.o⟩|go_keep)
     (first|(go_at_call 79;refine(vU _ w.heap.size _ zs (by exact HO.o.b (IJ).drew) _ _ _ x.row (by exact ah.b (IJ).drew) ar (x.count) W al).mono ?_;rintro e K ⟨⟨v3,rfl,E⟩,Y,u⟩;have C:=Hm E;have j:Hl (Below w.heap.size wr K):=Hm ((IJ).drew.trans u);clear E Y u))
    have N:=Hm (f.o.trans j.o);have aw:=C.o.base;generalize rY zs x.row (x.count)=U at*;obtain⟨Z,F⟩:=U;clear q r;go_wp2;all_goals(try(exfalso;go_light;simp_all;done));go_roundw
    case rel=>
     refine⟨_,_,m-1,0,d-1,J,g.drop 1,vs,F,Z,by simp[Rep.size,jv],by simp[Rep.size,jv],rfl,ax.o,T.o,?_,ao.o,ac.o,Q.o,C.o,N.o⟩;have:F.length<=zs.length+1:=P.o;omega
    case measure=>simp[vW];omega
  ·have aI:m=0:=by omega
   subst aI;have aH:0<i:=by omega
   have aJ:g=[]:=List.eq_nil_of_length_eq_zero S.o.len;obtain⟨H,of,y,rfl,I,HY,Yx,Yn,Yc,t,f1,f2,f3⟩:=T.o.ent aH;simp only[Nat.zero_mul,Nat.add_zero]at t f1;replace t:=eG f.o I t;replace f1:=eG f.o I f1;have au:=Nat.lt_of_lt_of_le I f.o.size;have a9:(0:Int)<(i:Int):=by omega
   have bb:(1:Int)<=(i:Int):=by omega
   have bd:(i:Int)<=(J:Int):=by have:=T.o.cap;omega
   have bf:((i:Int)==0)=false:=by simp;omega
   have aD:=Hm (ul HY.o);have ay:=Hm (Sl.tail T.o (k:=1) Ho);have ak:=ac.o y (fE HY.o);have aN:=aR y ak;have a6:=aP.o y ak;have ap:Hl (∀z∈vs.drop 1,z∈L):=Hm λz hz=>ac.o z (List.mem_of_mem_drop hz);have ai:=In.b f2 f.o;have aF:Yn<=4096:=by have:=f2.len;omega
   have an:=Hm (Gb (s:=s) aD.o);have a2:IntKind.i64.wrap (s*y.count)=s*y.count:=by
    rcases hs with rfl|rfl
    ·rw[Int.one_mul];exact IntWalk.i64_in _ Ho
    ·rw[Int.neg_mul,Int.one_mul];exact IntWalk.i64_in _ Ho
   have a5: -65536<=s*y.count/\s*y.count<=65536:=by
    rcases hs with rfl|rfl
    ·rw[Int.one_mul];exact aN
    ·rw[Int.neg_mul,Int.one_mul];omega
   have O:Hl (fK g (sg s vs)=⟨y.row,s*y.count⟩::fK g (sg s (vs.drop 1))):=Hm (by rw[aJ];exact(congrArg (λl=>fK [] l) an.o).trans (nD _ _));have Q:=Hm (lL.step aa.o O.o);have P:=Hm (tV zs y.row (s*y.count));have aE:=Hm t;have ag:=Hm f1;have W:jP (s*y.count):=⟨Ho,Ho⟩;go_wp2_with fail;go_region_held3 (λV=>V.cell? ⟨H,of,none⟩=some (.slice Yx Yn Yc)/\V.cell? ⟨H,of+1,none⟩=some (.int .i64 y.count))
    (first|exact⟨t,f1⟩|exact⟨(j.o.cell (p:=⟨H,of,none⟩) I).trans aE.o,(j.o.cell (p:=⟨H,of+1,none⟩) I).trans ag.o⟩|go_keep)
    (first|(go_at_call 79;refine(vU _ w.heap.size _ zs (by exact HO.o.b (IJ).drew) _ _ _ y.row (by exact ai.b (IJ).drew) aF (s*y.count) W al).mono ?_;rintro e K ⟨⟨v3,rfl,E⟩,Y,u⟩;have C:=Hm E;have j:Hl (Below w.heap.size wr K):=Hm ((IJ).drew.trans u);clear E Y u))
   have N:=Hm (f.o.trans j.o);have aw:=C.o.base;generalize rY zs y.row (s*y.count)=U at*;obtain⟨Z,F⟩:=U;clear t f1;go_wp2;all_goals(try(exfalso;go_light;simp_all;done));go_roundw
   case rel=>
    refine⟨_,_,0,i-1,d,J-1,g,vs.drop 1,F,Z,by simp[Rep.size,jv],by simp[Rep.size,jv],rfl,S.o,ay.o,?_,ab.o,ap.o,Q.o,C.o,N.o⟩;have:F.length<=zs.length+1:=P.o;omega
   case measure=>simp[vW];omega
end Go.Proofs.YthnelebakkggjaaGreatDoor
