/-
  warehouseworld.Value: a value that fits a column. warehouseworld.Row, Columns, Table: tables that fit. warehouseworld.Columns, Table; warehouselaw22.table: columns, a zone and a table that fits.
-/
import Derived.Test.YtopjjlmfilgngaaGreatDoorGal
namespace Go.Proofs.YtopjjlmfilgngaaGreatDoor
set_option maxHeartbeats 4000000
set_option maxRecDepth 100000
open Go.RowKit
set_option linter.unusedSimpArgs false
set_option linter.unusedVariables false
theorem sD {w W:World}{row:Option Nat}{b o:Nat}{v:Value}(h:w.grownBy W row)(hb:w.heap.size<=b):w.grownBy (W.setCell ⟨b,o,none⟩ v) row:=
 ⟨h.os,h.tape,h.output,by have:=h.size;simpa using this,λk a c=>(Below.heap_setCell _ _ _ k (λe=>by have e:k=b:=e;omega)).trans (h.block k a c)⟩
theorem CJ {w:World}{row:Option Nat}(o a:Obj):w.grownBy ((w.alloc o).alloc a) row:=Below.grows below_alloc2 _
structure VS (w W:World) (gb:Nat) (A:Option Addr) (n c:Nat) (l:List Int) (i:Nat) (nm:ByteArray) (kd:Int) (nl:Bool):Prop where
 k:W.cell? ⟨w.heap.size,1,none⟩=some (.int .i64 kd)
 u:W.cell? ⟨w.heap.size,2,none⟩=some (.bool nl)
 blk:iy W (w.heap.size+1) 36 3
 num:Num W gb A n c l i
 grown:w.grownBy W (some gb)
 low:gb<w.heap.size
section
variable {w W d:World}{gb:Nat}{A:Option Addr}{n c:Nat}{l:List Int}{i j:Nat}{nm:ByteArray}{kd:Int}{nl:Bool}
theorem VS.made (h:Num w gb A n c l i)(nm:ByteArray)(kd:Int)(nl:Bool):VS w ((w.alloc (.cells #[.string nm,.int .i64 kd,.bool nl] 82)).alloc (.cells #[.int .i64 0,.int .i64 0,.string ⟨#[]⟩] 36)) gb A n c l i nm kd nl:=by
 have a:=wY (Ep w (.cells #[.string nm,.int .i64 kd,.bool nl] 82) (.cells #[.int .i64 0,.int .i64 0,.string ⟨#[]⟩] 36));have b:=iy.made (w.alloc (.cells #[.string nm,.int .i64 kd,.bool nl] 82)) #[.int .i64 0,.int .i64 0,.string ⟨#[]⟩] 36 3 rfl;rw[World.size_alloc]at b;exact⟨a 1 _ rfl,a 2 _ rfl,b,h.below below_alloc2,CJ _ _,h.lt⟩
theorem VS.step (h:VS w W gb A n c l i nm kd nl)(b:W.grownBy d (some gb))(q:Num d gb A n c l j):VS w d gb A n c l j nm kd nl:=by
 have o:=h.low;have hs:w.heap.size<W.heap.size:=lt_of_cell h.k;have hb: ∀k,w.heap.size<=k->k<W.heap.size->d.heap[k]?=W.heap[k]?:=λk r g=>b.block k g (λe=>by injection e with e;omega);obtain⟨f,m,p⟩:=h.blk;exact⟨(World.cell?_of_block (a:=⟨w.heap.size,1,none⟩) (hb _ (Nat.le_refl _) hs)).trans h.k,(World.cell?_of_block (a:=⟨w.heap.size,2,none⟩) (hb _ (Nat.le_refl _) hs)).trans h.u,
  ⟨f,(hb _ (Nat.le_succ _) h.blk.lt).trans m,p⟩,q,h.grown.trans b,o⟩
theorem VS.below (h:VS w W gb A n c l i nm kd nl)(hb:Below W.heap.size W d):VS w d gb A n c l i nm kd nl:=h.step (Below.grows hb _) (h.num.below hb)
theorem VS.store (h:VS w W gb A n c l i nm kd nl)(a b:Int)(s:ByteArray):
  (∀j v,[Value.int .i64 a,Value.int .i64 b,Value.string s][j]?=some v->(((W.setCell ⟨w.heap.size+1,0,none⟩ (.int .i64 a)).setCell ⟨w.heap.size+1,1,none⟩ (.int .i64 b)).setCell ⟨w.heap.size+1,2,none⟩ (.string s)).cell? ⟨w.heap.size+1,j,none⟩=some v)/\
  Num (((W.setCell ⟨w.heap.size+1,0,none⟩ (.int .i64 a)).setCell ⟨w.heap.size+1,1,none⟩ (.int .i64 b)).setCell ⟨w.heap.size+1,2,none⟩ (.string s)) gb A n c l i/\
  w.grownBy (((W.setCell ⟨w.heap.size+1,0,none⟩ (.int .i64 a)).setCell ⟨w.heap.size+1,1,none⟩ (.int .i64 b)).setCell ⟨w.heap.size+1,2,none⟩ (.string s)) (some gb):=by
 have p:=h.low;obtain⟨q,f⟩:=h.blk.cell (o:=0) (by omega);obtain⟨r,g⟩:=h.blk.cell (o:=1) (by omega);obtain⟨t,m⟩:=h.blk.cell (o:=2) (by omega);exact⟨iJ f g m,((h.num.grown iO (λk e=>by injection e with e;omega)).grown iO (λk e=>by injection e with e;omega)).grown iO (λk e=>by injection e with e;omega),
  sD (sD (sD h.grown (Nat.le_succ _)) (Nat.le_succ _)) (Nat.le_succ _)⟩
end
theorem Er (w:World):In (w.alloc (.cells #[.string ⟨#[]⟩,.string ⟨#[97]⟩,.string ⟨#[98]⟩,.string ⟨#[105,116,39,115]⟩,.string ⟨#[122,122]⟩] 9)) (some ⟨w.heap.size,0,none⟩) 5 5 [(⟨#[]⟩:ByteArray),⟨#[97]⟩,⟨#[98]⟩,⟨#[105,116,39,115]⟩,⟨#[122,122]⟩]:=by
 have h: ∀(xs:List ByteArray) (W:World) (S:Nat->Prop),(∀x∈xs,x.size<=9223372036854775807)->Cells W S (xs.map Value.string) xs:=λxs=>by
  induction xs with
  |nil=>intro W S _;rfl
  |cons x l c=>intro W S a;exact⟨[.string x],_,rfl,⟨rfl,a x (by simp)⟩,c W S λy b=>a y (by simp[b])⟩
 exact l6 (heap_alloc_new w _) (h [⟨#[]⟩,⟨#[97]⟩,⟨#[98]⟩,⟨#[105,116,39,115]⟩,⟨#[122,122]⟩] _ _ (by decide)) rfl (by decide)
theorem GQ (w:World)(gb:Nat)(A:Option Addr)(n c:Nat)(l:List Int)(i:Nat)(Z:Num w gb A n c l i)(nm:ByteArray)(kd:Int)(nl:Bool)(U:(⟨nm,kd,nl⟩:Col).good):
  Calls Tryz.prog 71 #[.agg #[.string nm,.int .i64 kd,.bool nl],.pointer (some ⟨gb,0,none⟩)] w
   λe w'=>(∃v j,e=.returned (.agg #[.int .i64 v.kind,.int .i64 v.num,.string v.str])/\Fits ⟨nm,kd,nl⟩ v/\Num w' gb A n c l j)/\w.grownBy w' (some gb):=by
 have F:=Hm U;have d:=Hm (VS.made Z nm kd nl);have hk:kd=1\/kd=2\/kd=3\/kd=4:=by have:=U.2;show kd=1\/_;have h1:1<=kd:=this.1;have h2:kd<=4:=this.2;omega
 clear U;go_enter Tryz.func71,Tryz.ntmps71;have k0:=d.o.k;have C:=d.o.u;have ab:=Z.lt;cases nl
 ·rcases hk with rfl|rfl|rfl|rfl
  ·go_wp2_with fail;refine(jA _ gb A n c l _ d.o.num 2 (by omega)).mono ?_;rintro e B ⟨⟨v,j,rfl,D,m,h⟩,g⟩;have m:=m (by omega);have d:=Hm (d.o.step g h);clear h g;have G:=d.o.blk.frozen 0;have H:=d.o.blk.frozen 1;have I:=d.o.blk.frozen 2;obtain⟨C,J⟩:=d.o.blk.cell (o:=0) (by omega);obtain⟨K,p⟩:=d.o.blk.cell (o:=1) (by omega);obtain⟨L,q⟩:=d.o.blk.cell (o:=2) (by omega);go_wp2;obtain⟨r,s,t⟩:=d.o.store 1 v ⟨#[]⟩;refine bodyPost_ret (v:=.agg #[.int .i64 1,.int .i64 v,.string ⟨#[]⟩]) (iM (cs:=[.int .i64 1,.int .i64 v,.string ⟨#[]⟩]) rfl _ _ (w.heap.size+1) _ rfl r Tryz.underlying36 rfl (by kernel_rfl)) rfl ⟨⟨⟨1,v,⟨#[]⟩⟩,_,rfl,nC F.o (BP D (by omega)),s⟩,t⟩
  ·go_wp2_with fail;refine(jA _ gb A n c l _ d.o.num 7 (by omega)).mono ?_;rintro e B ⟨⟨v,j,rfl,D,m,h⟩,g⟩;have m:=m (by omega);have q7:IntKind.i64.wrap (v-1)=v-1:=IntWalk.i64_in _ (by omega);have d:=Hm (d.o.step g h);clear h g;have G:=d.o.blk.frozen 0;have H:=d.o.blk.frozen 1;have I:=d.o.blk.frozen 2;obtain⟨C,J⟩:=d.o.blk.cell (o:=0) (by omega);obtain⟨K,p⟩:=d.o.blk.cell (o:=1) (by omega);obtain⟨L,q⟩:=d.o.blk.cell (o:=2) (by omega);go_wp2;obtain⟨r,s,t⟩:=d.o.store 2 (v-1) ⟨#[]⟩;refine bodyPost_ret (v:=.agg #[.int .i64 2,.int .i64 (v-1),.string ⟨#[]⟩]) (iM (cs:=[.int .i64 2,.int .i64 (v-1),.string ⟨#[]⟩]) rfl _ _ (w.heap.size+1) _ rfl r Tryz.underlying36 rfl (by kernel_rfl)) rfl ⟨⟨⟨2,(v-1),⟨#[]⟩⟩,_,rfl,nC F.o (EC (by omega) (by omega)),s⟩,t⟩
  ·go_wp2_with fail;have d:=Hm (d.o.below (fI (o:=.cells #[.string ⟨#[]⟩,.string ⟨#[97]⟩,.string ⟨#[98]⟩,.string ⟨#[105,116,39,115]⟩,.string ⟨#[122,122]⟩] 9)));have R:=Er ((w.alloc (.cells #[.string nm,.int .i64 3,.bool false] 82)).alloc (.cells #[.int .i64 0,.int .i64 0,.string ⟨#[]⟩] 36));refine(jA _ gb A n c l _ d.o.num 5 (by omega)).mono ?_;rintro e B ⟨⟨v,j,rfl,D,m,h⟩,g⟩;have m:=m (by omega);obtain⟨f,rfl⟩: ∃f:Nat,v=(f:Int):=⟨v.toNat,by omega⟩;obtain⟨b,off,x,e,M,z,c0,c1⟩:=R.str (k:=f) (by omega);injection e with e;injection e with p q;have N:gb<((w.alloc (.cells #[.string nm,.int .i64 3,.bool false] 82)).alloc (.cells #[.int .i64 0,.int .i64 0,.string ⟨#[]⟩] 36)).heap.size:=by simp;omega
   have c0:B.cell? ⟨((w.alloc (.cells #[.string nm,.int .i64 3,.bool false] 82)).alloc (.cells #[.int .i64 0,.int .i64 0,.string ⟨#[]⟩] 36)).heap.size,0+f,none⟩=some (.string x):=by
    rw[p,q];exact(World.cell?_of_block (a:=⟨b,off+f,none⟩) (g.block b M (λe=>by injection e with e;omega))).trans c0
   rw[Nat.zero_add]at c0;have T:Hl (Made 3 ⟨3,0,x⟩):=Hm (BQ (by
    have V:=gH z.o;have E: ∀y∈[(⟨#[]⟩:ByteArray),⟨#[97]⟩,⟨#[98]⟩,⟨#[105,116,39,115]⟩,⟨#[122,122]⟩],y.size<=64:=by decide
    exact E x V))
   have X:(0:Int)<=(f:Int):=by omega
   have Y:(f:Int)<5:=by omega
   have d:=Hm (d.o.step g h);clear h g R z p q N;simp only[World.size_alloc]at c0;have G:=d.o.blk.frozen 0;have H:=d.o.blk.frozen 1;have I:=d.o.blk.frozen 2;obtain⟨C,J⟩:=d.o.blk.cell (o:=0) (by omega);obtain⟨K,p⟩:=d.o.blk.cell (o:=1) (by omega);obtain⟨L,q⟩:=d.o.blk.cell (o:=2) (by omega);go_wp2;obtain⟨r,s,t⟩:=d.o.store 3 0 x;refine bodyPost_ret (v:=.agg #[.int .i64 3,.int .i64 0,.string x]) (iM (cs:=[.int .i64 3,.int .i64 0,.string x]) rfl _ _ (w.heap.size+1) _ rfl r Tryz.underlying36 rfl (by kernel_rfl)) rfl ⟨⟨⟨3,0,x⟩,_,rfl,nC F.o T.o,s⟩,t⟩
  ·go_wp2_with fail;refine(wC _).mono ?_;rintro e W1 ⟨⟨li,rfl,Q,E⟩,P⟩;have d:=Hm (d.o.below P);go_wp2_with fail;refine(jA _ gb A n c l _ d.o.num 16 (by omega)).mono ?_;rintro e B ⟨⟨v,j,rfl,D,m,h⟩,g⟩;have m:=m (by omega);obtain⟨f,rfl⟩: ∃f:Nat,v=(f:Int):=⟨v.toNat,by omega⟩;obtain⟨b,off,x,e,M,z,c0,c1⟩:=Q.int (k:=f) (by omega);injection e with e;injection e with p q;have N:gb<((w.alloc (.cells #[.string nm,.int .i64 4,.bool false] 82)).alloc (.cells #[.int .i64 0,.int .i64 0,.string ⟨#[]⟩] 36)).heap.size:=by simp;omega
   have c0:B.cell? ⟨((w.alloc (.cells #[.string nm,.int .i64 4,.bool false] 82)).alloc (.cells #[.int .i64 0,.int .i64 0,.string ⟨#[]⟩] 36)).heap.size,0+f,none⟩=some (.int .i64 x):=by
    rw[p,q];exact(World.cell?_of_block (a:=⟨b,off+f,none⟩) (g.block b M (λe=>by injection e with e;omega))).trans c0
   rw[Nat.zero_add]at c0;have S:=E x (gH z.o);have X:(0:Int)<=(f:Int):=by omega
   have Y:(f:Int)<16:=by omega
   have d:=Hm (d.o.step g h);clear h g E z Q P p q N;simp only[World.size_alloc]at c0;have G:=d.o.blk.frozen 0;have H:=d.o.blk.frozen 1;have I:=d.o.blk.frozen 2;obtain⟨C,J⟩:=d.o.blk.cell (o:=0) (by omega);obtain⟨K,p⟩:=d.o.blk.cell (o:=1) (by omega);obtain⟨L,q⟩:=d.o.blk.cell (o:=2) (by omega);go_wp2;obtain⟨r,s,t⟩:=d.o.store 4 x ⟨#[]⟩;refine bodyPost_ret (v:=.agg #[.int .i64 4,.int .i64 x,.string ⟨#[]⟩]) (iM (cs:=[.int .i64 4,.int .i64 x,.string ⟨#[]⟩]) rfl _ _ (w.heap.size+1) _ rfl r Tryz.underlying36 rfl (by kernel_rfl)) rfl ⟨⟨⟨4,x,⟨#[]⟩⟩,_,rfl,nC F.o (BU S.1 S.2),s⟩,t⟩
 ·go_wp2_with fail;refine(jA _ gb A n c l _ d.o.num 5 (by omega)).mono ?_;rintro e O ⟨⟨v,j,rfl,D,m,h⟩,g⟩;have d:=Hm (d.o.step g h);clear h g k0 C;have k0:=d.o.k;have C:=d.o.u;have aa:=d.o.num.lt;by_cases W:v=0
  ·subst W;have G:=d.o.blk.frozen 0;have H:=d.o.blk.frozen 1;have I:=d.o.blk.frozen 2;obtain⟨C,J⟩:=d.o.blk.cell (o:=0) (by omega);obtain⟨K,p⟩:=d.o.blk.cell (o:=1) (by omega);obtain⟨L,q⟩:=d.o.blk.cell (o:=2) (by omega);go_wp2;obtain⟨r,s,t⟩:=d.o.store 0 0 ⟨#[]⟩;refine bodyPost_ret (v:=.agg #[.int .i64 0,.int .i64 0,.string ⟨#[]⟩]) (iM (cs:=[.int .i64 0,.int .i64 0,.string ⟨#[]⟩]) rfl _ _ (w.heap.size+1) _ rfl r Tryz.underlying36 rfl (by kernel_rfl)) rfl ⟨⟨⟨0,0,⟨#[]⟩⟩,_,rfl,IR rfl,s⟩,t⟩
  ·have qv:(v==0)=false:=by simpa using W
   clear W;rcases hk with rfl|rfl|rfl|rfl
   ·go_wp2_with fail;refine(jA _ gb A n c l _ d.o.num 2 (by omega)).mono ?_;rintro e B ⟨⟨v,j,rfl,D,m,h⟩,g⟩;have m:=m (by omega);have d:=Hm (d.o.step g h);clear h g;have G:=d.o.blk.frozen 0;have H:=d.o.blk.frozen 1;have I:=d.o.blk.frozen 2;obtain⟨C,J⟩:=d.o.blk.cell (o:=0) (by omega);obtain⟨K,p⟩:=d.o.blk.cell (o:=1) (by omega);obtain⟨L,q⟩:=d.o.blk.cell (o:=2) (by omega);go_wp2;obtain⟨r,s,t⟩:=d.o.store 1 v ⟨#[]⟩;refine bodyPost_ret (v:=.agg #[.int .i64 1,.int .i64 v,.string ⟨#[]⟩]) (iM (cs:=[.int .i64 1,.int .i64 v,.string ⟨#[]⟩]) rfl _ _ (w.heap.size+1) _ rfl r Tryz.underlying36 rfl (by kernel_rfl)) rfl ⟨⟨⟨1,v,⟨#[]⟩⟩,_,rfl,nC F.o (BP D (by omega)),s⟩,t⟩
   ·go_wp2_with fail;refine(jA _ gb A n c l _ d.o.num 7 (by omega)).mono ?_;rintro e B ⟨⟨v,j,rfl,D,m,h⟩,g⟩;have m:=m (by omega);have q7:IntKind.i64.wrap (v-1)=v-1:=IntWalk.i64_in _ (by omega);have d:=Hm (d.o.step g h);clear h g;have G:=d.o.blk.frozen 0;have H:=d.o.blk.frozen 1;have I:=d.o.blk.frozen 2;obtain⟨C,J⟩:=d.o.blk.cell (o:=0) (by omega);obtain⟨K,p⟩:=d.o.blk.cell (o:=1) (by omega);obtain⟨L,q⟩:=d.o.blk.cell (o:=2) (by omega);go_wp2;obtain⟨r,s,t⟩:=d.o.store 2 (v-1) ⟨#[]⟩;refine bodyPost_ret (v:=.agg #[.int .i64 2,.int .i64 (v-1),.string ⟨#[]⟩]) (iM (cs:=[.int .i64 2,.int .i64 (v-1),.string ⟨#[]⟩]) rfl _ _ (w.heap.size+1) _ rfl r Tryz.underlying36 rfl (by kernel_rfl)) rfl ⟨⟨⟨2,(v-1),⟨#[]⟩⟩,_,rfl,nC F.o (EC (by omega) (by omega)),s⟩,t⟩
   ·go_wp2_with fail;have d:=Hm (d.o.below (fI (o:=.cells #[.string ⟨#[]⟩,.string ⟨#[97]⟩,.string ⟨#[98]⟩,.string ⟨#[105,116,39,115]⟩,.string ⟨#[122,122]⟩] 9)));have R:=Er O;refine(jA _ gb A n c l _ d.o.num 5 (by omega)).mono ?_;rintro e B ⟨⟨v,j,rfl,D,m,h⟩,g⟩;have m:=m (by omega);obtain⟨f,rfl⟩: ∃f:Nat,v=(f:Int):=⟨v.toNat,by omega⟩;obtain⟨b,off,x,e,M,z,c0,c1⟩:=R.str (k:=f) (by omega);injection e with e;injection e with p q;have N:gb<O.heap.size:=aa;have c0:B.cell? ⟨O.heap.size,0+f,none⟩=some (.string x):=by
     rw[p,q];exact(World.cell?_of_block (a:=⟨b,off+f,none⟩) (g.block b M (λe=>by injection e with e;omega))).trans c0
    rw[Nat.zero_add]at c0;have T:Hl (Made 3 ⟨3,0,x⟩):=Hm (BQ (by
     have V:=gH z.o;have E: ∀y∈[(⟨#[]⟩:ByteArray),⟨#[97]⟩,⟨#[98]⟩,⟨#[105,116,39,115]⟩,⟨#[122,122]⟩],y.size<=64:=by decide
     exact E x V))
    have X:(0:Int)<=(f:Int):=by omega
    have Y:(f:Int)<5:=by omega
    have d:=Hm (d.o.step g h);clear h g R z p q N;have G:=d.o.blk.frozen 0;have H:=d.o.blk.frozen 1;have I:=d.o.blk.frozen 2;obtain⟨C,J⟩:=d.o.blk.cell (o:=0) (by omega);obtain⟨K,p⟩:=d.o.blk.cell (o:=1) (by omega);obtain⟨L,q⟩:=d.o.blk.cell (o:=2) (by omega);go_wp2;obtain⟨r,s,t⟩:=d.o.store 3 0 x;refine bodyPost_ret (v:=.agg #[.int .i64 3,.int .i64 0,.string x]) (iM (cs:=[.int .i64 3,.int .i64 0,.string x]) rfl _ _ (w.heap.size+1) _ rfl r Tryz.underlying36 rfl (by kernel_rfl)) rfl ⟨⟨⟨3,0,x⟩,_,rfl,nC F.o T.o,s⟩,t⟩
   ·go_wp2_with fail;refine(wC _).mono ?_;rintro e W1 ⟨⟨li,rfl,Q,E⟩,P⟩;have d:=Hm (d.o.below P);go_wp2_with fail;refine(jA _ gb A n c l _ d.o.num 16 (by omega)).mono ?_;rintro e B ⟨⟨v,j,rfl,D,m,h⟩,g⟩;have m:=m (by omega);obtain⟨f,rfl⟩: ∃f:Nat,v=(f:Int):=⟨v.toNat,by omega⟩;obtain⟨b,off,x,e,M,z,c0,c1⟩:=Q.int (k:=f) (by omega);injection e with e;injection e with p q;have N:gb<O.heap.size:=aa;have c0:B.cell? ⟨O.heap.size,0+f,none⟩=some (.int .i64 x):=by
     rw[p,q];exact(World.cell?_of_block (a:=⟨b,off+f,none⟩) (g.block b M (λe=>by injection e with e;omega))).trans c0
    rw[Nat.zero_add]at c0;have S:=E x (gH z.o);have X:(0:Int)<=(f:Int):=by omega
    have Y:(f:Int)<16:=by omega
    have d:=Hm (d.o.step g h);clear h g E z Q P p q N;have G:=d.o.blk.frozen 0;have H:=d.o.blk.frozen 1;have I:=d.o.blk.frozen 2;obtain⟨C,J⟩:=d.o.blk.cell (o:=0) (by omega);obtain⟨K,p⟩:=d.o.blk.cell (o:=1) (by omega);obtain⟨L,q⟩:=d.o.blk.cell (o:=2) (by omega);go_wp2;obtain⟨r,s,t⟩:=d.o.store 4 x ⟨#[]⟩;refine bodyPost_ret (v:=.agg #[.int .i64 4,.int .i64 x,.string ⟨#[]⟩]) (iM (cs:=[.int .i64 4,.int .i64 x,.string ⟨#[]⟩]) rfl _ _ (w.heap.size+1) _ rfl r Tryz.underlying36 rfl (by kernel_rfl)) rfl ⟨⟨⟨4,x,⟨#[]⟩⟩,_,rfl,nC F.o (BU S.1 S.2),s⟩,t⟩
theorem BM {w W a:World}{row:Option Nat}(h:w.grownBy W row)(hb:Below w.heap.size W a):w.grownBy a row:=
 ⟨hb.os.trans h.os,hb.tape.trans h.tape,hb.output.trans h.output,Nat.le_trans h.size hb.size,λk b c=>(hb.block k b).trans (h.block k b c)⟩
theorem Num.low {W b:World}{B gb:Nat}{A:Option Addr}{n c:Nat}{l:List Int}{i:Nat}(h:Num W gb A n c l i)(hb:Below B W b)(a:gb<B):Num b gb A n c l i:=by
 obtain⟨d,e,g⟩:=h.blk;exact⟨(hb.cell (p:=⟨gb,0,none⟩) a).trans h.c0,(hb.cell (p:=⟨gb,1,none⟩) a).trans h.c1,⟨d,(hb.block gb a).trans e,g⟩,h.lst.keep λk f=>hb.block k (Nat.lt_trans f a),h.le,h.nn⟩
structure RowAt (w W:World) (gb:Nat) (A:Option Addr) (n c:Nat) (l:List Int) (cols:List Col) (B:Option Addr) (d k:Nat) (vs:List Val):Prop where
 len:vs.length=k
 fits: ∀i,i<k->Fits (cols.getD i default) (vs.getD i default)
 stk:Stk w.heap.size W 36 B d vs
 num: ∃j,Num W gb A n c l j
 grown:w.grownBy W (some gb)
theorem Md {α:Type}[Flat α]{B:Nat}{W a:World}{e:TypeId}{A:Option Addr}{c gb:Nat}{xs:List α}(h:Stk B W e A c xs)(d:W.grownBy a (some gb))(f:gb<B):Stk B a e A c xs:=
 ⟨wI h.own λg b=>d.block g (h.blk g b).1 (λe=>by injection e with e;have:=(h.blk g b).2;omega),h.ok⟩
theorem LV (w:World)(gb:Nat)(A:Option Addr)(n c:Nat)(l:List Int)(i:Nat)(h:Num w gb A n c l i)(s:Option Addr)(a c1:Nat)(cols:List Col)(D:Off w gb s a c1 cols)(E: ∀x∈cols,x.good)(ac:a<=4096):
  Calls Tryz.prog 43 #[.slice s a c1,.pointer (some ⟨gb,0,none⟩)] w
   λe w'=> ∃B d vs,e=.returned (.slice B a d)/\RowAt w w' gb A n c l cols B d a vs:=by
 obtain⟨i0,hi,Y,Z,aa⟩:=info_parts nQ;have ab:=D.inn.le;have G:=h.lt;have M:=Hm E;have P:=Hm h;clear E h;go_enter Tryz.func43,Tryz.ntmps43;go_wp2;go_loopw [5,6] (λo q wr=> ∃(k:Nat) (B:Option Addr) (d:Nat) (vs:List Val),k<=a/\q=.int .i64 k/\o=.slice B k d/\RowAt w wr gb A n c l cols B d k vs) (λ_ q _=>a-(intOf q).toNat)
 case atStart=>exact⟨0,none,0,[],Nat.zero_le _,rfl,rfl,rfl,λi hi=>by omega,Stk.nil_ _ _ _,⟨_,P.o⟩,Below.grows (Below.refl _ _) _⟩
 case round=>
  obtain⟨k,B,d,vs,hk,rfl,rfl,C⟩:=hrel;have f:=Hm C;clear C;by_cases V:k<a
  ·obtain⟨b,off,x,rfl,hB,t,u,y,z,e3⟩:=(D.grown f.o.grown).inn.col V;have X:=M.o x (gH t.o);have K:Hl (cols.getD k default=x):=Hm (by rw[List.getD,(iR t.o).1];rfl);obtain⟨j,I⟩:=f.o.num;have k0:(0:Int)<=(k:Int):=by omega
   have k1:(k:Int)<(a:Int):=by omega
   obtain⟨nm,kd,nl⟩:=x;simp only at u y z;go_wp2_with fail;refine(GQ wr gb A n c l j I nm kd nl X).mono ?_;rintro e J ⟨⟨v,j2,rfl,p,H⟩,g⟩;have L:=Hm p;have Q:=Hm H;have N:=Hm g;have W:=p.1;have ad:w.heap.size<=J.heap.size:=Nat.le_trans f.o.grown.size g.size;have S:=Hm (Md f.o.stk g G);have O:=Hm (Nat.le_of_eq f.o.len.symm);clear p H g I u y z;go_wp2_with (at_builtin;refine qJ (α:=Val) _ rfl (.tmp 13) (.tmp 20) 23 rfl w.heap.size 36 i0 _ 32 Tryz.underlying23 hi Y Z aa rfl (by decide) B d k vs (S.o.keep fI) O.o rfl v W J.heap.size rfl (iI _ _ _ _ rfl) (by omega) (by simp;omega) ?_;intro A' c' w5 r m);have R:Hl (RowAt w w5 gb A n c l cols A' c' (k+1) (vs++[v])):=Hm (by
    have F:=f.o.len;rw[List.take_of_length_le (by omega)]at r;refine⟨by rw[List.length_append,F];rfl,λi hi=>?_,r,⟨j2,(Q.o.below fI).low m G⟩,BM ((f.o.grown.trans N.o).trans (Below.grows fI _)) m⟩;by_cases T:i=k
    ·subst T;rw[K.o,List.getD,List.getElem?_append_right (by omega),F,Nat.sub_self];exact L.o
    ·rw[show(vs++[v]).getD i default=vs.getD i default by rw[List.getD,List.getD,List.getElem?_append_left (by omega)]];exact f.o.fits i (by omega))
   clear r m;go_wp2;go_roundw
   case rel=>exact⟨k+1,A',c',vs++[v],by omega,by go_num,rfl,R.o⟩
   case measure=>simp[intOf];omega
  ·have U:k=a:=by omega
   subst U;go_wp2;go_ret;exact⟨B,d,vs,rfl,f.o⟩
def PI (nl:Bool):Col:=⟨⟨#[105,100]⟩,2,nl⟩
def Po (nl:Bool):Col:=⟨⟨#[110,97,109,101]⟩,3,nl⟩
theorem OH {c:Col}(a:c.name.size<=4)(b:0<=c.kind)(d:c.kind<=4):c.ok:=⟨by unfold Str;omega,by omega,by omega⟩
theorem Fy (xs:List Col)(w:World)(S:Nat->Prop)(h: ∀x∈xs,x.ok):Cells w S (xs.flatMap Col.cells) xs:=by
 induction xs with
 |nil=>rfl
 |cons x l b=>exact⟨x.cells,_,rfl,⟨rfl,h x (by simp)⟩,b λy a=>h y (by simp[a])⟩
theorem Jk {α:Type}[Rep α]{w b d:World}{gb:Nat}{A:Option Addr}{n c:Nat}{xs:List α}{t:Nat}(i:t≠64)(hb:iF b 64 gb)(f:b.grownBy d (some gb))(h:Sl b (New w b t) A n c xs):Sl d (New w d t) A n c xs:=by
 have hs: ∀k,iF b t k->d.heap[k]?=b.heap[k]?:=λk a=>f.block k a.lt λe=>by
  injection e with e;exact iF.ne a hb i e
 refine(h.keep λk a=>hs k a.2).mono λk a=>⟨a.1,?_⟩;obtain⟨q,g⟩:=a.2;exact⟨q,(hs k a.2).trans g⟩
theorem xM {w a b:World}{gb:Nat}{v:Value}{zs:List Ent}(hb:iF a 64 gb)(c:a.grownBy b (some gb))(h:gz w a v zs):gz w b v zs:=
 h.kept c (by
  by_cases q:v.ownBlock=some gb
  ·exact absurd rfl (iF.ne (h.row q).2.2 hb (by decide))
  ·exact .inr q) λk e d=>by
   injection e with e;exact iF.ne d hb (by decide) e.symm
def Fu (cols:List Col)(x:Ent):Prop:=x.row.length=cols.length/\(∀i,i<cols.length->Fits (cols.getD i default) (x.row.getD i default))/\1<=x.count/\x.count<=2
structure TabAt (w W:World) (gb:Nat) (A:Option Addr) (n c:Nat) (l:List Int) (cols:List Col) (v:Value) (xs:List Ent):Prop where
 fresh:gz w W v xs
 ents: ∀x∈xs,Fu cols x
 num: ∃j,Num W gb A n c l j
 grown:w.grownBy W (some gb)
theorem FX {x:Int}(a:0<=x)(b:x<3):x.tdiv 2=x / 2/\0<=x / 2/\x / 2<=1:=⟨Int.tdiv_eq_ediv_of_nonneg a,by omega,by omega⟩
theorem GH (w:World)(gb:Nat)(A:Option Addr)(n c:Nat)(l:List Int)(i:Nat)(G:Num w gb A n c l i)(E:Option Addr)(p c1:Nat)(cols:List Col)(X:Off w gb E p c1 cols)(aq: ∀x∈cols,x.good)(aD:p<=12)(m:Int)(aC:0<=m)(hm:m<=1000):
  Calls Tryz.prog 19 #[.slice E p c1,.pointer (some ⟨gb,0,none⟩),.int .i64 m] w
   λe w'=> ∃v xs zs q j,e=.returned v/\gz w w' v zs/\(∀x∈xs,Fu cols x)/\xs.length<=1000/\yJ xs q zs/\Num w' gb A n c l j/\w.grownBy w' (some gb):=by
 obtain⟨i0,hi,ax,ay,az⟩:=info_parts rq;have au:=G.lt;have Z:=Hm X.inn.len;have q0:IntKind.i64.wrap (m+1)=m+1:=IntWalk.i64_in _ (by omega);go_enter Tryz.func19,Tryz.ntmps19;go_wp2_with fail;refine(jA w gb A n c l i G (m+1) (by omega)).mono ?_;rintro e w1 ⟨⟨s,j,rfl,s0,M,ac⟩,r⟩;have M:=M (by omega);have an:Hl (TabAt w w1 gb A n c l cols (.slice none 0 0) []):=Hm ⟨gz.nil _ _,(λx hx=>by cases hx),⟨_,ac⟩,r⟩;clear ac r G;obtain⟨s,rfl⟩: ∃s':Nat,s=(s':Int):=⟨s.toNat,by omega⟩;have s2:s<=1000:=by omega
 clear s0 M;go_wp2;go_loopw [7,8] (λo q wr=> ∃(k:Nat) (xs:List Ent),q=.int .i64 k/\xs.length+k<=1000/\TabAt w wr gb A n c l cols o xs) (λ_ q _=>(intOf q).toNat)
 case atStart=>exact⟨s,[],rfl,by simp;omega,an.o⟩
 case round=>
  obtain⟨k,xs,rfl,aB,V⟩:=hrel;have b:=Hm V;clear V;obtain⟨j2,z⟩:=b.o.num;have L:=b.o.grown.size;by_cases a:0<k
  ·have k0:(0:Int)<(k:Int):=by omega
   have k2:IntKind.i64.wrap ((k:Int)-1)=(k:Int)-1:=IntWalk.i64_in _ (by omega);go_wp2_with fail;refine(LV wr gb A n c l j2 z E p c1 cols (X.grown b.o.grown) aq (by omega)).mono ?_;rintro e u ⟨B,d,vs,rfl,H⟩;obtain⟨j3,J⟩:=H.num;have f:=Hm H;have U:=Hm J;clear H;go_wp2_with fail;refine(jA u gb A n c l j3 J 3 (by omega)).mono ?_;rintro e N ⟨⟨x,j4,rfl,x0,O,ad⟩,aa⟩;have O:=O (by omega);obtain⟨p1,p2,p3⟩:=FX x0 O;have p4:IntKind.i64.wrap (x / 2)=x / 2:=IntWalk.i64_in _ (by omega);have p5:IntKind.i64.wrap (1+x / 2)=1+x / 2:=IntWalk.i64_in _ (by omega);have ai:=Hm ad;have C:=Hm aa;have aw:=z;clear z J ad aa;have am:Hl (w.heap.size<=N.heap.size):=Hm (Nat.le_trans (Nat.le_trans L f.o.grown.size) C.o.size);have aE:=am.o;have ah:=Hm (xM U.o.blk.ty C.o (xM aw.blk.ty f.o.grown b.o.fresh));have ak:Hl (Sl u (New w u 36) B p d vs):=Hm (by
    have hl:=f.o.len;obtain⟨A',c',hv,hs,_⟩:=kU (S:=λ_=>False) (T:=New w u 36) f.o.stk.own (rW u _ f.o.stk.ok) (λ_ h=>h.elim) rfl (λg hg ht=>⟨Nat.le_trans L hg,ht⟩);injection hv with h1 _ h3;subst h1 h3;rw[hl]at hs;exact hs)
   have al:=Hm (Jk (by decide) U.o.blk.ty C.o ak.o);have ag:Hl (Fu cols ⟨vs,1+x / 2⟩):=Hm ⟨by show vs.length=_;rw[f.o.len,Z.o],λi hi=>f.o.fits i (by rw[<-Z.o];exact hi),by show 1<=1+x / 2;omega,by show 1+x / 2<=2;omega⟩;obtain⟨cs,K,Y⟩:=ah.o;obtain⟨D,I⟩: ∃D,xs.length=D:=⟨_,rfl⟩;rw[I]at K;have R:=Hm I;have aA:D<=1000:=by omega
   have F:=Hm K;have af:=Hm Y;clear I K Y;go_wp2_with (at_builtin;refine lV _ rfl (.tmp 19) (.tmp 28) 27 rfl w.heap.size 50 i0 _ 2 32 Tryz.underlying27 hi ax ay az rfl (by decide) u7 D cs rfl (F.o.alloc _) (some ⟨N.heap.size,0,none⟩) 1 1 [.slice B p d,.int .i64 (1+x / 2)] rfl (by intro h;cases h) (qG (by simp[go_sem]) (by simp[go_sem])) pJ (by simp only[maxLen];omega) (by omega) (by simp;omega) ?_;intro v1 w5 ae r ap);have Q:Hl (Below w.heap.size (N.alloc (.cells #[.slice B p d,.int .i64 (1+x / 2)] 50)) w5):=Hm ((Below.refl _ _).grown r (by simp;omega) (λj e=>(F.o.lt j e).1));have ao:Hl (TabAt w w5 gb A n c l cols v1 (xs++[⟨vs,1+x / 2⟩])):=Hm (by
    refine⟨gz.add (x:=⟨vs,1+x / 2⟩) (by rw[R.o];exact F.o.alloc _) ((af.o.keep ((Same.below fI).sub λk a=>a.2.lt)).mono λk a=>⟨a.1,a.2.below fI⟩) ((al.o.keep ((Same.below fI).sub λk a=>a.2.lt)).mono λk a=>⟨a.1,a.2.below fI⟩) ⟨by show -9223372036854775808<=1+x / 2;omega,by show 1+x / 2<=9223372036854775807;omega⟩ (λk a av=>r.block k a (λe=>av e.symm)) (by rw[R.o];exact ae),λy t=>?_,⟨j4,(ai.o.below fI).low Q.o au⟩,BM (((b.o.grown.trans f.o.grown).trans C.o).trans (Below.grows fI _)) Q.o⟩;rcases List.mem_append.1 t with t|t
    ·exact b.o.ents y t
    ·simp at t;subst t;exact ag.o)
   clear ae r ap;go_wp2;go_roundw
   case rel=>exact⟨k-1,xs++[⟨vs,1+x / 2⟩],by go_num,by rw[List.length_append];show xs.length+1+(k-1)<=1000;omega,ao.o⟩
   case measure=>simp[intOf];omega
  ·have ar:k=0:=by omega
   subst ar;obtain⟨A7,c7,rfl,ab⟩:=b.o.fresh.sl;go_wp2_with fail;refine(AQ wr A7 _ c7 xs ab (by omega)).mono ?_;rintro e u ⟨⟨v,q,zs,rfl,hf,hn⟩,W⟩;have HF:=Hm (hf.base L);have HN:=Hm hn;have P:=Hm W;have aj:=Hm z;clear hf hn W z ab;go_wp2;go_ret;exact⟨v,xs,zs,q,j2,rfl,HF.o,b.o.ents,by omega,HN.o,aj.o.below P.o,b.o.grown.trans (Below.grows P.o _)⟩
section
variable {P:Program}
end
def Hi {α:Type}[Rep α](B:Nat)(w:World)(A:Option Addr)(n c:Nat)(xs:List α):Prop:=Sl w (λk=>B<=k/\k<w.heap.size) A n c xs
section
variable {α:Type}[Rep α]{B gb:Nat}{w w':World}{A:Option Addr}{n c:Nat}{xs:List α}
theorem Hi.inn (h:Hi B w A n c xs):In w A n c xs:=Sl.mono (λk a=>a.2) h
theorem Hi.off (h:Hi B w A n c xs)(b:gb<B):Off w gb A n c xs:=Sl.mono (λk a=>⟨a.2,by omega⟩) h
theorem Hi.grown {row:Option Nat}(h:Hi B w A n c xs)(b:w.grownBy w' row)(d: ∀k,row=some k->k<B):Hi B w' A n c xs:=
 (Sl.keep (λk a=>b.block k a.2 λe=>by have:=d k e.symm;omega) h).mono λk a=>⟨a.1,Nat.lt_of_lt_of_le a.2 b.size⟩
theorem Hi.below (h:Hi B w A n c xs)(hb:Below w.heap.size w w'):Hi B w' A n c xs:=h.grown (row:=none) (Below.grows hb _) λk e=>by cases e
theorem Pv (h:In w A n c xs)(m: ∀(S T:Nat->Prop) (d:List Value) (a:α),Rep.rd w S d a->Rep.rd w T d a)(hb: ∀b off,A=some ⟨b,off,none⟩->B<=b):Hi B w A n c xs:=by
 refine⟨h.1,h.2.1,h.2.2.1,h.2.2.2.1,λl=>?_⟩;obtain⟨b,off,e,k,hi⟩:=h.2.2.2.2 l;refine⟨b,off,e,⟨hb b off e,k⟩,λi j=>?_⟩;obtain⟨d,f,g⟩:=hi i j;exact⟨d,m _ _ d _ f,g⟩
end
theorem gz.hi {w w':World}{v:Value}{zs:List Ent}(h:gz w w' v zs): ∃A c,v=.slice A zs.length c/\Hi w.heap.size w' A zs.length c zs:=by
 obtain⟨i,b,d⟩:=h;obtain⟨A,c,e,hs,_⟩:=kU (T:=λk=>w.heap.size<=k/\k<w'.heap.size) b d (λk a=>⟨a.1,a.2.lt⟩) rfl (λg hb f=>⟨hb,f.lt⟩);exact⟨A,c,e,hs⟩
def uX (cols:List Col)(zs:List Ent):Prop:= ∃xs q,(∀x∈xs,Fu cols x)/\xs.length<=1000/\yJ xs q zs
end Go.Proofs.YtopjjlmfilgngaaGreatDoor
