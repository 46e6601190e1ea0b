/-
  warehouseworld.Value: a value that fits a column. warehouseworld.Row, Columns, Table: tables that fit. warehouseworld.Columns, Table; warehouselaw22.table: columns, a zone and a table that fits.
-/
import Derived.Test.YtopjjlmfilgngaaGreatDoorGao
import Derived.Test.YtopjjlmfilgngaaGreatDoorGad
import Derived.Test.YtopjjlmfilgngaaGreatDoorGal
namespace Go.Proofs.YtopjjlmfilgngaaGreatDoor
set_option maxHeartbeats 4000000
set_option maxRecDepth 100000
open Go.RowKit
set_option linter.unusedSimpArgs false
set_option linter.unusedVariables false
theorem qi {w W:World}{row:Option Nat}{b o:Nat}{v:Value}(h:w.grownBy W row)(hb:w.heap.size<=b):w.grownBy (W.setCell ⟨b,o,none⟩ v) row:=
 ⟨h.os,h.tape,h.output,by have:=h.size;simpa using this,λk hk hr=>(Below.heap_setCell _ _ _ k (λe=>by have e:k=b:=e;omega)).trans (h.block k hk hr)⟩
theorem Du {w:World}{row:Option Nat}(o o':Obj):w.grownBy ((w.alloc o).alloc o') row:=Below.grows below_alloc2 _
structure VS (w W:World) (gb:Nat) (A:Option Addr) (n c:Nat) (l:List Int) (i:Nat) (nm:ByteArray) (kd:Int) (nl:Bool):Prop where
 k:W.cell? ⟨w.heap.size,1,none⟩=some (.int .i64 kd)
 u:W.cell? ⟨w.heap.size,2,none⟩=some (.bool nl)
 blk:dP W (w.heap.size+1) 36 3
 num:Num W gb A n c l i
 grown:w.grownBy W (some gb)
 low:gb<w.heap.size
section
variable {w W W':World}{gb:Nat}{A:Option Addr}{n c:Nat}{l:List Int}{i j:Nat}{nm:ByteArray}{kd:Int}{nl:Bool}
theorem VS.made (h:Num w gb A n c l i)(nm:ByteArray)(kd:Int)(nl:Bool):VS w ((w.alloc (.cells #[.string nm,.int .i64 kd,.bool nl] 82)).alloc (.cells #[.int .i64 0,.int .i64 0,.string ⟨#[]⟩] 36)) gb A n c l i nm kd nl:=by
 have h1:=vY (Fy w (.cells #[.string nm,.int .i64 kd,.bool nl] 82) (.cells #[.int .i64 0,.int .i64 0,.string ⟨#[]⟩] 36));have hr:=dP.made (w.alloc (.cells #[.string nm,.int .i64 kd,.bool nl] 82)) #[.int .i64 0,.int .i64 0,.string ⟨#[]⟩] 36 3 rfl;rw[World.size_alloc]at hr;exact ⟨h1 1 _ rfl,h1 2 _ rfl,hr,h.below below_alloc2,Du _ _,h.lt⟩
theorem VS.step (h:VS w W gb A n c l i nm kd nl)(hg:W.grownBy W' (some gb))(hn:Num W' gb A n c l j):VS w W' gb A n c l j nm kd nl:=by
 have hl:=h.low;have hs:w.heap.size<W.heap.size:=lt_of_cell h.k;have hb: ∀k,w.heap.size<=k->k<W.heap.size->W'.heap[k]?=W.heap[k]?:=λk h1 h2=>hg.block k h2 (λe=>by injection e with e;omega);obtain ⟨cur,hc,hm⟩:=h.blk;exact ⟨(World.cell?_of_block (a:=⟨w.heap.size,1,none⟩) (hb _ (Nat.le_refl _) hs)).trans h.k,(World.cell?_of_block (a:=⟨w.heap.size,2,none⟩) (hb _ (Nat.le_refl _) hs)).trans h.u,
  ⟨cur,(hb _ (Nat.le_succ _) h.blk.lt).trans hc,hm⟩,hn,h.grown.trans hg,hl⟩
theorem VS.below (h:VS w W gb A n c l i nm kd nl)(hb:Below W.heap.size W W'):VS w W' gb A n c l i nm kd nl:=h.step (Below.grows hb _) (h.num.below hb)
theorem VS.store (h:VS w W gb A n c l i nm kd nl)(a b:Int)(s:ByteArray):
  (∀j v,[Value.int .i64 a,Value.int .i64 b,Value.string s][j]?=some v->(((W.setCell ⟨w.heap.size+1,0,none⟩ (.int .i64 a)).setCell ⟨w.heap.size+1,1,none⟩ (.int .i64 b)).setCell ⟨w.heap.size+1,2,none⟩ (.string s)).cell? ⟨w.heap.size+1,j,none⟩=some v)/\
  Num (((W.setCell ⟨w.heap.size+1,0,none⟩ (.int .i64 a)).setCell ⟨w.heap.size+1,1,none⟩ (.int .i64 b)).setCell ⟨w.heap.size+1,2,none⟩ (.string s)) gb A n c l i/\
  w.grownBy (((W.setCell ⟨w.heap.size+1,0,none⟩ (.int .i64 a)).setCell ⟨w.heap.size+1,1,none⟩ (.int .i64 b)).setCell ⟨w.heap.size+1,2,none⟩ (.string s)) (some gb):=by
 have hl:=h.low;obtain ⟨u0,e0⟩:=h.blk.cell (o:=0) (by omega);obtain ⟨u1,e1⟩:=h.blk.cell (o:=1) (by omega);obtain ⟨u2,e2⟩:=h.blk.cell (o:=2) (by omega);exact ⟨dM e0 e1 e2,((h.num.grown bM (λk e=>by injection e with e;omega)).grown bM (λk e=>by injection e with e;omega)).grown bM (λk e=>by injection e with e;omega),
  qi (qi (qi h.grown (Nat.le_succ _)) (Nat.le_succ _)) (Nat.le_succ _)⟩
end
theorem FE (w:World):In (w.alloc (.cells #[.string ⟨#[]⟩,.string ⟨#[97]⟩,.string ⟨#[98]⟩,.string ⟨#[105,116,39,115]⟩,.string ⟨#[122,122]⟩] 9)) (some ⟨w.heap.size,0,none⟩) 5 5 [(⟨#[]⟩:ByteArray),⟨#[97]⟩,⟨#[98]⟩,⟨#[105,116,39,115]⟩,⟨#[122,122]⟩]:=by
 have h: ∀(xs:List ByteArray) (W:World) (S:Nat->Prop),(∀x∈xs,x.size<=9223372036854775807)->Cells W S (xs.map Value.string) xs:=λxs=>by
  induction xs with
  |nil=>intro W S _;rfl
  |cons x l ih=>intro W S hx;exact ⟨[.string x],_,rfl,⟨rfl,hx x (by simp)⟩,ih W S λy hy=>hx y (by simp[hy])⟩
 exact iZ (heap_alloc_new w _) (h [⟨#[]⟩,⟨#[97]⟩,⟨#[98]⟩,⟨#[105,116,39,115]⟩,⟨#[122,122]⟩] _ _ (by decide)) rfl (by decide)
theorem IL (w:World)(gb:Nat)(A:Option Addr)(n c:Nat)(l:List Int)(i:Nat)(hN:Num w gb A n c l i)(nm:ByteArray)(kd:Int)(nl:Bool)(hc:(⟨nm,kd,nl⟩:Col).good):
  Calls Tryz.prog 71 #[.agg #[.string nm,.int .i64 kd,.bool nl],.pointer (some ⟨gb,0,none⟩)] w
   λe w'=>(∃v j,e=.returned (.agg #[.int .i64 v.kind,.int .i64 v.num,.string v.str])/\Fits ⟨nm,kd,nl⟩ v/\Num w' gb A n c l j)/\w.grownBy w' (some gb):=by
 have HC:=hide hc;have HV:=hide (VS.made hN nm kd nl);have hk:kd=1\/kd=2\/kd=3\/kd=4:=by have:=hc.2;show kd=1\/_;have h1:1<=kd:=this.1;have h2:kd<=4:=this.2;omega
 clear hc;go_enter Tryz.func71,Tryz.ntmps71;have k0:=HV.out.k;have u0:=HV.out.u;have hlow:=hN.lt;cases nl
 ·rcases hk with rfl|rfl|rfl|rfl
  ·go_wp2_with fail;refine (dL _ gb A n c l _ HV.out.num 2 (by omega)).mono ?_;rintro e W2 ⟨⟨v,j,rfl,v0,v1,hn2⟩,hg2⟩;have v1:=v1 (by omega);have HV:=hide (HV.out.step hg2 hn2);clear hn2 hg2;have b0:=HV.out.blk.frozen 0;have b1:=HV.out.blk.frozen 1;have b2:=HV.out.blk.frozen 2;obtain ⟨u0,e0⟩:=HV.out.blk.cell (o:=0) (by omega);obtain ⟨u1,e1⟩:=HV.out.blk.cell (o:=1) (by omega);obtain ⟨u2,e2⟩:=HV.out.blk.cell (o:=2) (by omega);go_wp2;obtain ⟨q1,q2,q3⟩:=HV.out.store 1 v ⟨#[]⟩;refine bodyPost_ret (v:=.agg #[.int .i64 1,.int .i64 v,.string ⟨#[]⟩]) (bJ (cs:=[.int .i64 1,.int .i64 v,.string ⟨#[]⟩]) rfl _ _ (w.heap.size+1) _ rfl q1 Tryz.underlying36 rfl (by kernel_rfl)) rfl ⟨⟨⟨1,v,⟨#[]⟩⟩,_,rfl,jU HC.out (Ct v0 (by omega)),q2⟩,q3⟩
  ·go_wp2_with fail;refine (dL _ gb A n c l _ HV.out.num 7 (by omega)).mono ?_;rintro e W2 ⟨⟨v,j,rfl,v0,v1,hn2⟩,hg2⟩;have v1:=v1 (by omega);have q7:IntKind.i64.wrap (v-1)=v-1:=IntWalk.i64_in _ (by omega);have HV:=hide (HV.out.step hg2 hn2);clear hn2 hg2;have b0:=HV.out.blk.frozen 0;have b1:=HV.out.blk.frozen 1;have b2:=HV.out.blk.frozen 2;obtain ⟨u0,e0⟩:=HV.out.blk.cell (o:=0) (by omega);obtain ⟨u1,e1⟩:=HV.out.blk.cell (o:=1) (by omega);obtain ⟨u2,e2⟩:=HV.out.blk.cell (o:=2) (by omega);go_wp2;obtain ⟨q1,q2,q3⟩:=HV.out.store 2 (v-1) ⟨#[]⟩;refine bodyPost_ret (v:=.agg #[.int .i64 2,.int .i64 (v-1),.string ⟨#[]⟩]) (bJ (cs:=[.int .i64 2,.int .i64 (v-1),.string ⟨#[]⟩]) rfl _ _ (w.heap.size+1) _ rfl q1 Tryz.underlying36 rfl (by kernel_rfl)) rfl ⟨⟨⟨2,(v-1),⟨#[]⟩⟩,_,rfl,jU HC.out (FP (by omega) (by omega)),q2⟩,q3⟩
  ·go_wp2_with fail;have HV:=hide (HV.out.below (ae (o:=.cells #[.string ⟨#[]⟩,.string ⟨#[97]⟩,.string ⟨#[98]⟩,.string ⟨#[105,116,39,115]⟩,.string ⟨#[122,122]⟩] 9)));have hst:=FE ((w.alloc (.cells #[.string nm,.int .i64 3,.bool false] 82)).alloc (.cells #[.int .i64 0,.int .i64 0,.string ⟨#[]⟩] 36));refine (dL _ gb A n c l _ HV.out.num 5 (by omega)).mono ?_;rintro e W2 ⟨⟨v,j,rfl,v0,v1,hn2⟩,hg2⟩;have v1:=v1 (by omega);obtain ⟨vn,rfl⟩: ∃vn:Nat,v=(vn:Int):=⟨v.toNat,by omega⟩;obtain ⟨b,off,x,e,hB,HX,c0,c1⟩:=hst.str (k:=vn) (by omega);injection e with e;injection e with e1 e2;have hgb:gb<((w.alloc (.cells #[.string nm,.int .i64 3,.bool false] 82)).alloc (.cells #[.int .i64 0,.int .i64 0,.string ⟨#[]⟩] 36)).heap.size:=by simp;omega
   have c0:W2.cell? ⟨((w.alloc (.cells #[.string nm,.int .i64 3,.bool false] 82)).alloc (.cells #[.int .i64 0,.int .i64 0,.string ⟨#[]⟩] 36)).heap.size,0+vn,none⟩=some (.string x):=by
    rw[e1,e2];exact (World.cell?_of_block (a:=⟨b,off+vn,none⟩) (hg2.block b hB (λe=>by injection e with e;omega))).trans c0
   rw[Nat.zero_add]at c0;have HM:Hid (Made 3 ⟨3,0,x⟩):=hide (Cu (by
    have hm:=aH HX.out;have hall: ∀y∈[(⟨#[]⟩:ByteArray),⟨#[97]⟩,⟨#[98]⟩,⟨#[105,116,39,115]⟩,⟨#[122,122]⟩],y.size<=64:=by decide
    exact hall x hm))
   have n0:(0:Int)<=(vn:Int):=by omega
   have n1:(vn:Int)<5:=by omega
   have HV:=hide (HV.out.step hg2 hn2);clear hn2 hg2 hst HX e1 e2 hgb;simp only[World.size_alloc]at c0;have b0:=HV.out.blk.frozen 0;have b1:=HV.out.blk.frozen 1;have b2:=HV.out.blk.frozen 2;obtain ⟨u0,e0⟩:=HV.out.blk.cell (o:=0) (by omega);obtain ⟨u1,e1⟩:=HV.out.blk.cell (o:=1) (by omega);obtain ⟨u2,e2⟩:=HV.out.blk.cell (o:=2) (by omega);go_wp2;obtain ⟨q1,q2,q3⟩:=HV.out.store 3 0 x;refine bodyPost_ret (v:=.agg #[.int .i64 3,.int .i64 0,.string x]) (bJ (cs:=[.int .i64 3,.int .i64 0,.string x]) rfl _ _ (w.heap.size+1) _ rfl q1 Tryz.underlying36 rfl (by kernel_rfl)) rfl ⟨⟨⟨3,0,x⟩,_,rfl,jU HC.out HM.out,q2⟩,q3⟩
  ·go_wp2_with fail;refine (uY _).mono ?_;rintro e W1 ⟨⟨li,rfl,hin,hall⟩,hb1⟩;have HV:=hide (HV.out.below hb1);go_wp2_with fail;refine (dL _ gb A n c l _ HV.out.num 16 (by omega)).mono ?_;rintro e W2 ⟨⟨v,j,rfl,v0,v1,hn2⟩,hg2⟩;have v1:=v1 (by omega);obtain ⟨vn,rfl⟩: ∃vn:Nat,v=(vn:Int):=⟨v.toNat,by omega⟩;obtain ⟨b,off,x,e,hB,HX,c0,c1⟩:=hin.int (k:=vn) (by omega);injection e with e;injection e with e1 e2;have hgb:gb<((w.alloc (.cells #[.string nm,.int .i64 4,.bool false] 82)).alloc (.cells #[.int .i64 0,.int .i64 0,.string ⟨#[]⟩] 36)).heap.size:=by simp;omega
   have c0:W2.cell? ⟨((w.alloc (.cells #[.string nm,.int .i64 4,.bool false] 82)).alloc (.cells #[.int .i64 0,.int .i64 0,.string ⟨#[]⟩] 36)).heap.size,0+vn,none⟩=some (.int .i64 x):=by
    rw[e1,e2];exact (World.cell?_of_block (a:=⟨b,off+vn,none⟩) (hg2.block b hB (λe=>by injection e with e;omega))).trans c0
   rw[Nat.zero_add]at c0;have hx:=hall x (aH HX.out);have n0:(0:Int)<=(vn:Int):=by omega
   have n1:(vn:Int)<16:=by omega
   have HV:=hide (HV.out.step hg2 hn2);clear hn2 hg2 hall HX hin hb1 e1 e2 hgb;simp only[World.size_alloc]at c0;have b0:=HV.out.blk.frozen 0;have b1:=HV.out.blk.frozen 1;have b2:=HV.out.blk.frozen 2;obtain ⟨u0,e0⟩:=HV.out.blk.cell (o:=0) (by omega);obtain ⟨u1,e1⟩:=HV.out.blk.cell (o:=1) (by omega);obtain ⟨u2,e2⟩:=HV.out.blk.cell (o:=2) (by omega);go_wp2;obtain ⟨q1,q2,q3⟩:=HV.out.store 4 x ⟨#[]⟩;refine bodyPost_ret (v:=.agg #[.int .i64 4,.int .i64 x,.string ⟨#[]⟩]) (bJ (cs:=[.int .i64 4,.int .i64 x,.string ⟨#[]⟩]) rfl _ _ (w.heap.size+1) _ rfl q1 Tryz.underlying36 rfl (by kernel_rfl)) rfl ⟨⟨⟨4,x,⟨#[]⟩⟩,_,rfl,jU HC.out (Cv hx.1 hx.2),q2⟩,q3⟩
 ·go_wp2_with fail;refine (dL _ gb A n c l _ HV.out.num 5 (by omega)).mono ?_;rintro e W0 ⟨⟨v,j,rfl,v0,v1,hn2⟩,hg2⟩;have HV:=hide (HV.out.step hg2 hn2);clear hn2 hg2 k0 u0;have k0:=HV.out.k;have u0:=HV.out.u;have hl0:=HV.out.num.lt;by_cases hv:v=0
  ·subst hv;have b0:=HV.out.blk.frozen 0;have b1:=HV.out.blk.frozen 1;have b2:=HV.out.blk.frozen 2;obtain ⟨u0,e0⟩:=HV.out.blk.cell (o:=0) (by omega);obtain ⟨u1,e1⟩:=HV.out.blk.cell (o:=1) (by omega);obtain ⟨u2,e2⟩:=HV.out.blk.cell (o:=2) (by omega);go_wp2;obtain ⟨q1,q2,q3⟩:=HV.out.store 0 0 ⟨#[]⟩;refine bodyPost_ret (v:=.agg #[.int .i64 0,.int .i64 0,.string ⟨#[]⟩]) (bJ (cs:=[.int .i64 0,.int .i64 0,.string ⟨#[]⟩]) rfl _ _ (w.heap.size+1) _ rfl q1 Tryz.underlying36 rfl (by kernel_rfl)) rfl ⟨⟨⟨0,0,⟨#[]⟩⟩,_,rfl,Ke rfl,q2⟩,q3⟩
  ·have qv:(v==0)=false:=by simpa using hv
   clear hv;rcases hk with rfl|rfl|rfl|rfl
   ·go_wp2_with fail;refine (dL _ gb A n c l _ HV.out.num 2 (by omega)).mono ?_;rintro e W2 ⟨⟨v,j,rfl,v0,v1,hn2⟩,hg2⟩;have v1:=v1 (by omega);have HV:=hide (HV.out.step hg2 hn2);clear hn2 hg2;have b0:=HV.out.blk.frozen 0;have b1:=HV.out.blk.frozen 1;have b2:=HV.out.blk.frozen 2;obtain ⟨u0,e0⟩:=HV.out.blk.cell (o:=0) (by omega);obtain ⟨u1,e1⟩:=HV.out.blk.cell (o:=1) (by omega);obtain ⟨u2,e2⟩:=HV.out.blk.cell (o:=2) (by omega);go_wp2;obtain ⟨q1,q2,q3⟩:=HV.out.store 1 v ⟨#[]⟩;refine bodyPost_ret (v:=.agg #[.int .i64 1,.int .i64 v,.string ⟨#[]⟩]) (bJ (cs:=[.int .i64 1,.int .i64 v,.string ⟨#[]⟩]) rfl _ _ (w.heap.size+1) _ rfl q1 Tryz.underlying36 rfl (by kernel_rfl)) rfl ⟨⟨⟨1,v,⟨#[]⟩⟩,_,rfl,jU HC.out (Ct v0 (by omega)),q2⟩,q3⟩
   ·go_wp2_with fail;refine (dL _ gb A n c l _ HV.out.num 7 (by omega)).mono ?_;rintro e W2 ⟨⟨v,j,rfl,v0,v1,hn2⟩,hg2⟩;have v1:=v1 (by omega);have q7:IntKind.i64.wrap (v-1)=v-1:=IntWalk.i64_in _ (by omega);have HV:=hide (HV.out.step hg2 hn2);clear hn2 hg2;have b0:=HV.out.blk.frozen 0;have b1:=HV.out.blk.frozen 1;have b2:=HV.out.blk.frozen 2;obtain ⟨u0,e0⟩:=HV.out.blk.cell (o:=0) (by omega);obtain ⟨u1,e1⟩:=HV.out.blk.cell (o:=1) (by omega);obtain ⟨u2,e2⟩:=HV.out.blk.cell (o:=2) (by omega);go_wp2;obtain ⟨q1,q2,q3⟩:=HV.out.store 2 (v-1) ⟨#[]⟩;refine bodyPost_ret (v:=.agg #[.int .i64 2,.int .i64 (v-1),.string ⟨#[]⟩]) (bJ (cs:=[.int .i64 2,.int .i64 (v-1),.string ⟨#[]⟩]) rfl _ _ (w.heap.size+1) _ rfl q1 Tryz.underlying36 rfl (by kernel_rfl)) rfl ⟨⟨⟨2,(v-1),⟨#[]⟩⟩,_,rfl,jU HC.out (FP (by omega) (by omega)),q2⟩,q3⟩
   ·go_wp2_with fail;have HV:=hide (HV.out.below (ae (o:=.cells #[.string ⟨#[]⟩,.string ⟨#[97]⟩,.string ⟨#[98]⟩,.string ⟨#[105,116,39,115]⟩,.string ⟨#[122,122]⟩] 9)));have hst:=FE W0;refine (dL _ gb A n c l _ HV.out.num 5 (by omega)).mono ?_;rintro e W2 ⟨⟨v,j,rfl,v0,v1,hn2⟩,hg2⟩;have v1:=v1 (by omega);obtain ⟨vn,rfl⟩: ∃vn:Nat,v=(vn:Int):=⟨v.toNat,by omega⟩;obtain ⟨b,off,x,e,hB,HX,c0,c1⟩:=hst.str (k:=vn) (by omega);injection e with e;injection e with e1 e2;have hgb:gb<W0.heap.size:=hl0;have c0:W2.cell? ⟨W0.heap.size,0+vn,none⟩=some (.string x):=by
     rw[e1,e2];exact (World.cell?_of_block (a:=⟨b,off+vn,none⟩) (hg2.block b hB (λe=>by injection e with e;omega))).trans c0
    rw[Nat.zero_add]at c0;have HM:Hid (Made 3 ⟨3,0,x⟩):=hide (Cu (by
     have hm:=aH HX.out;have hall: ∀y∈[(⟨#[]⟩:ByteArray),⟨#[97]⟩,⟨#[98]⟩,⟨#[105,116,39,115]⟩,⟨#[122,122]⟩],y.size<=64:=by decide
     exact hall x hm))
    have n0:(0:Int)<=(vn:Int):=by omega
    have n1:(vn:Int)<5:=by omega
    have HV:=hide (HV.out.step hg2 hn2);clear hn2 hg2 hst HX e1 e2 hgb;have b0:=HV.out.blk.frozen 0;have b1:=HV.out.blk.frozen 1;have b2:=HV.out.blk.frozen 2;obtain ⟨u0,e0⟩:=HV.out.blk.cell (o:=0) (by omega);obtain ⟨u1,e1⟩:=HV.out.blk.cell (o:=1) (by omega);obtain ⟨u2,e2⟩:=HV.out.blk.cell (o:=2) (by omega);go_wp2;obtain ⟨q1,q2,q3⟩:=HV.out.store 3 0 x;refine bodyPost_ret (v:=.agg #[.int .i64 3,.int .i64 0,.string x]) (bJ (cs:=[.int .i64 3,.int .i64 0,.string x]) rfl _ _ (w.heap.size+1) _ rfl q1 Tryz.underlying36 rfl (by kernel_rfl)) rfl ⟨⟨⟨3,0,x⟩,_,rfl,jU HC.out HM.out,q2⟩,q3⟩
   ·go_wp2_with fail;refine (uY _).mono ?_;rintro e W1 ⟨⟨li,rfl,hin,hall⟩,hb1⟩;have HV:=hide (HV.out.below hb1);go_wp2_with fail;refine (dL _ gb A n c l _ HV.out.num 16 (by omega)).mono ?_;rintro e W2 ⟨⟨v,j,rfl,v0,v1,hn2⟩,hg2⟩;have v1:=v1 (by omega);obtain ⟨vn,rfl⟩: ∃vn:Nat,v=(vn:Int):=⟨v.toNat,by omega⟩;obtain ⟨b,off,x,e,hB,HX,c0,c1⟩:=hin.int (k:=vn) (by omega);injection e with e;injection e with e1 e2;have hgb:gb<W0.heap.size:=hl0;have c0:W2.cell? ⟨W0.heap.size,0+vn,none⟩=some (.int .i64 x):=by
     rw[e1,e2];exact (World.cell?_of_block (a:=⟨b,off+vn,none⟩) (hg2.block b hB (λe=>by injection e with e;omega))).trans c0
    rw[Nat.zero_add]at c0;have hx:=hall x (aH HX.out);have n0:(0:Int)<=(vn:Int):=by omega
    have n1:(vn:Int)<16:=by omega
    have HV:=hide (HV.out.step hg2 hn2);clear hn2 hg2 hall HX hin hb1 e1 e2 hgb;have b0:=HV.out.blk.frozen 0;have b1:=HV.out.blk.frozen 1;have b2:=HV.out.blk.frozen 2;obtain ⟨u0,e0⟩:=HV.out.blk.cell (o:=0) (by omega);obtain ⟨u1,e1⟩:=HV.out.blk.cell (o:=1) (by omega);obtain ⟨u2,e2⟩:=HV.out.blk.cell (o:=2) (by omega);go_wp2;obtain ⟨q1,q2,q3⟩:=HV.out.store 4 x ⟨#[]⟩;refine bodyPost_ret (v:=.agg #[.int .i64 4,.int .i64 x,.string ⟨#[]⟩]) (bJ (cs:=[.int .i64 4,.int .i64 x,.string ⟨#[]⟩]) rfl _ _ (w.heap.size+1) _ rfl q1 Tryz.underlying36 rfl (by kernel_rfl)) rfl ⟨⟨⟨4,x,⟨#[]⟩⟩,_,rfl,jU HC.out (Cv hx.1 hx.2),q2⟩,q3⟩
theorem Co {w W W':World}{row:Option Nat}(h:w.grownBy W row)(hb:Below w.heap.size W W'):w.grownBy W' row:=
 ⟨hb.os.trans h.os,hb.tape.trans h.tape,hb.output.trans h.output,Nat.le_trans h.size hb.size,λk hk hr=>(hb.block k hk).trans (h.block k hk hr)⟩
theorem Num.low {W W':World}{B gb:Nat}{A:Option Addr}{n c:Nat}{l:List Int}{i:Nat}(h:Num W gb A n c l i)(hb:Below B W W')(hgb:gb<B):Num W' gb A n c l i:=by
 obtain ⟨cur,hc,hm⟩:=h.blk;exact ⟨(hb.cell (p:=⟨gb,0,none⟩) hgb).trans h.c0,(hb.cell (p:=⟨gb,1,none⟩) hgb).trans h.c1,⟨cur,(hb.block gb hgb).trans hc,hm⟩,h.lst.keep λk hk=>hb.block k (Nat.lt_trans hk hgb),h.le,h.nn⟩
structure RowAt (w W:World) (gb:Nat) (A:Option Addr) (n c:Nat) (l:List Int) (cols:List Col) (B:Option Addr) (d k:Nat) (vs:List Val):Prop where
 len:vs.length=k
 fits: ∀i,i<k->Fits (cols.getD i default) (vs.getD i default)
 stk:Stk w.heap.size W 36 B d vs
 num: ∃j,Num W gb A n c l j
 grown:w.grownBy W (some gb)
theorem OJ {α:Type}[Flat α]{B:Nat}{W W':World}{e:TypeId}{A:Option Addr}{c gb:Nat}{xs:List α}(h:Stk B W e A c xs)(hg:W.grownBy W' (some gb))(hgb:gb<B):Stk B W' e A c xs:=
 ⟨vo h.own λg hq=>hg.block g (h.blk g hq).1 (λe=>by injection e with e;have:=(h.blk g hq).2;omega),h.ok⟩
theorem OC (w:World)(gb:Nat)(A:Option Addr)(n c:Nat)(l:List Int)(i:Nat)(hN:Num w gb A n c l i)(A1:Option Addr)(n1 c1:Nat)(cols:List Col)(hc:Off w gb A1 n1 c1 cols)(hgood: ∀x∈cols,x.good)(hn1:n1<=4096):
  Calls Tryz.prog 43 #[.slice A1 n1 c1,.pointer (some ⟨gb,0,none⟩)] w
   λe w'=> ∃B d vs,e=.returned (.slice B n1 d)/\RowAt w w' gb A n c l cols B d n1 vs:=by
 obtain ⟨i0,hi,hz0,hz1,hz2⟩:=info_parts lL;have h63:=hc.inn.le;have hlow:=hN.lt;have HG:=hide hgood;have HN:=hide hN;clear hgood hN;go_enter Tryz.func43,Tryz.ntmps43;go_wp2;go_loopw [5,6] (λo q wr=> ∃(k:Nat) (B:Option Addr) (d:Nat) (vs:List Val),k<=n1/\q=.int .i64 k/\o=.slice B k d/\RowAt w wr gb A n c l cols B d k vs) (λ_ q _=>n1-(intOf q).toNat)
 case atStart=>exact ⟨0,none,0,[],Nat.zero_le _,rfl,rfl,rfl,λi hi=>by omega,Stk.nil_ _ _ _,⟨_,HN.out⟩,Below.grows (Below.refl _ _) _⟩
 case round=>
  obtain ⟨k,B,d,vs,hk,rfl,rfl,hR⟩:=hrel;have HR:=hide hR;clear hR;by_cases hlt:k<n1
  ·obtain ⟨b,off,x,rfl,hB,HX,e0,e1,e2,e3⟩:=(hc.grown HR.out.grown).inn.col hlt;have hxg:=HG.out x (aH HX.out);have HF:Hid (cols.getD k default=x):=hide (by rw[List.getD,(bX HX.out).1];rfl);obtain ⟨j,FD⟩:=HR.out.num;have k0:(0:Int)<=(k:Int):=by omega
   have k1:(k:Int)<(n1:Int):=by omega
   obtain ⟨nm,kd,nl⟩:=x;simp only at e0 e1 e2;go_wp2_with fail;refine (IL wr gb A n c l j FD nm kd nl hxg).mono ?_;rintro e w2 ⟨⟨v,j2,rfl,hfit,hn2⟩,hg2⟩;have PE:=hide hfit;have fD:=hide hn2;have HG2:=hide hg2;have hok:=hfit.1;have hsz:w.heap.size<=w2.heap.size:=Nat.le_trans HR.out.grown.size hg2.size;have HS2:=hide (OJ HR.out.stk hg2 hlow);have HKL:=hide (Nat.le_of_eq HR.out.len.symm);clear hfit hn2 hg2 FD e0 e1 e2;go_wp2_with (at_builtin;refine nP (α:=Val) _ rfl (.tmp 13) (.tmp 20) 23 rfl w.heap.size 36 i0 _ 32 Tryz.underlying23 hi hz0 hz1 hz2 rfl (by decide) B d k vs (HS2.out.keep ae) HKL.out rfl v hok w2.heap.size rfl (bH _ _ _ _ rfl) (by omega) (by simp;omega) ?_;intro A' c' w5 sQ hb5);have YW:Hid (RowAt w w5 gb A n c l cols A' c' (k+1) (vs++[v])):=hide (by
    have hl:=HR.out.len;rw[List.take_of_length_le (by omega)]at sQ;refine ⟨by rw[List.length_append,hl];rfl,λi hi=>?_,sQ,⟨j2,(fD.out.below ae).low hb5 hlow⟩,Co ((HR.out.grown.trans HG2.out).trans (Below.grows ae _)) hb5⟩;by_cases hik:i=k
    ·subst hik;rw[HF.out,List.getD,List.getElem?_append_right (by omega),hl,Nat.sub_self];exact PE.out
    ·rw[show (vs++[v]).getD i default=vs.getD i default by rw[List.getD,List.getD,List.getElem?_append_left (by omega)]];exact HR.out.fits i (by omega))
   clear sQ hb5;go_wp2;go_roundw
   case rel=>exact ⟨k+1,A',c',vs++[v],by omega,by go_num,rfl,YW.out⟩
   case measure=>simp[intOf];omega
  ·have hkn:k=n1:=by omega
   subst hkn;go_wp2;go_ret;exact ⟨B,d,vs,rfl,HR.out⟩
def cId (nl:Bool):Col:=⟨⟨#[105,100]⟩,2,nl⟩
def VK (nl:Bool):Col:=⟨⟨#[110,97,109,101]⟩,3,nl⟩
theorem Tm {c:Col}(h1:c.name.size<=4)(h2:0<=c.kind)(h3:c.kind<=4):c.ok:=⟨by unfold Str;omega,by omega,by omega⟩
theorem GU (xs:List Col)(w:World)(S:Nat->Prop)(h: ∀x∈xs,x.ok):Cells w S (xs.flatMap Col.cells) xs:=by
 induction xs with
 |nil=>rfl
 |cons x l ih=>exact ⟨x.cells,_,rfl,⟨rfl,h x (by simp)⟩,ih λy hy=>h y (by simp[hy])⟩
theorem KJ {α:Type}[Rep α]{w w2 w3:World}{gb:Nat}{A:Option Addr}{n c:Nat}{xs:List α}{t:Nat}(ht:t≠64)(hb:dm w2 64 gb)(hg:w2.grownBy w3 (some gb))(h:Sl w2 (New w w2 t) A n c xs):Sl w3 (New w w3 t) A n c xs:=by
 have hs: ∀k,dm w2 t k->w3.heap[k]?=w2.heap[k]?:=λk hk=>hg.block k hk.lt λe=>by
  injection e with e;exact dm.ne hk hb ht e
 refine (h.keep λk hk=>hs k hk.2).mono λk hk=>⟨hk.1,?_⟩;obtain ⟨q,hq⟩:=hk.2;exact ⟨q,(hs k hk.2).trans hq⟩
theorem wZ {w w2 w3:World}{gb:Nat}{v:Value}{zs:List Ent}(hb:dm w2 64 gb)(hg:w2.grownBy w3 (some gb))(h:aD w w2 v zs):aD w w3 v zs:=
 h.kept hg (by
  by_cases q:v.ownBlock=some gb
  ·exact absurd rfl (dm.ne (h.row q).2.2 hb (by decide))
  ·exact .inr q) λk e hk=>by
   injection e with e;exact dm.ne hk hb (by decide) e.symm
def GI (cols:List Col)(x:Ent):Prop:=x.row.length=cols.length/\(∀i,i<cols.length->Fits (cols.getD i default) (x.row.getD i default))/\1<=x.count/\x.count<=2
structure TabAt (w W:World) (gb:Nat) (A:Option Addr) (n c:Nat) (l:List Int) (cols:List Col) (v:Value) (xs:List Ent):Prop where
 fresh:aD w W v xs
 ents: ∀x∈xs,GI cols x
 num: ∃j,Num W gb A n c l j
 grown:w.grownBy W (some gb)
theorem Hq {x:Int}(h0:0<=x)(h1:x<3):x.tdiv 2=x / 2/\0<=x / 2/\x / 2<=1:=⟨Int.tdiv_eq_ediv_of_nonneg h0,by omega,by omega⟩
theorem Iz (w:World)(gb:Nat)(A:Option Addr)(n c:Nat)(l:List Int)(i:Nat)(hN:Num w gb A n c l i)(A1:Option Addr)(n1 c1:Nat)(cols:List Col)(hc:Off w gb A1 n1 c1 cols)(hgood: ∀x∈cols,x.good)(hn1:n1<=12)(m:Int)(hm0:0<=m)(hm:m<=1000):
  Calls Tryz.prog 19 #[.slice A1 n1 c1,.pointer (some ⟨gb,0,none⟩),.int .i64 m] w
   λe w'=> ∃v xs zs q j,e=.returned v/\aD w w' v zs/\(∀x∈xs,GI cols x)/\xs.length<=1000/\yB xs q zs/\Num w' gb A n c l j/\w.grownBy w' (some gb):=by
 obtain ⟨i0,hi,hz0,hz1,hz2⟩:=info_parts oM;have hlow:=hN.lt;have hcl:=hide hc.inn.len;have q0:IntKind.i64.wrap (m+1)=m+1:=IntWalk.i64_in _ (by omega);go_enter Tryz.func19,Tryz.ntmps19;go_wp2_with fail;refine (dL w gb A n c l i hN (m+1) (by omega)).mono ?_;rintro e w1 ⟨⟨s,j,rfl,s0,s1,hn1'⟩,hg1⟩;have s1:=s1 (by omega);have HT0:Hid (TabAt w w1 gb A n c l cols (.slice none 0 0) []):=hide ⟨aD.nil _ _,(λx hx=>by cases hx),⟨_,hn1'⟩,hg1⟩;clear hn1' hg1 hN;obtain ⟨s,rfl⟩: ∃s':Nat,s=(s':Int):=⟨s.toNat,by omega⟩;have s2:s<=1000:=by omega
 clear s0 s1;go_wp2;go_loopw [7,8] (λo q wr=> ∃(k:Nat) (xs:List Ent),q=.int .i64 k/\xs.length+k<=1000/\TabAt w wr gb A n c l cols o xs) (λ_ q _=>(intOf q).toNat)
 case atStart=>exact ⟨s,[],rfl,by simp;omega,HT0.out⟩
 case round=>
  obtain ⟨k,xs,rfl,hlen,hT⟩:=hrel;have HT:=hide hT;clear hT;obtain ⟨j2,FD⟩:=HT.out.num;have TJ:=HT.out.grown.size;by_cases hk:0<k
  ·have k0:(0:Int)<(k:Int):=by omega
   have k2:IntKind.i64.wrap ((k:Int)-1)=(k:Int)-1:=IntWalk.i64_in _ (by omega);go_wp2_with fail;refine (OC wr gb A n c l j2 FD A1 n1 c1 cols (hc.grown HT.out.grown) hgood (by omega)).mono ?_;rintro e w2 ⟨B,d,vs,rfl,hR⟩;obtain ⟨j3,UD⟩:=hR.num;have HR:=hide hR;have HN3:=hide UD;clear hR;go_wp2_with fail;refine (dL w2 gb A n c l j3 UD 3 (by omega)).mono ?_;rintro e w3 ⟨⟨x,j4,rfl,x0,x1,XU⟩,hg4⟩;have x1:=x1 (by omega);obtain ⟨p1,p2,p3⟩:=Hq x0 x1;have p4:IntKind.i64.wrap (x / 2)=x / 2:=IntWalk.i64_in _ (by omega);have p5:IntKind.i64.wrap (1+x / 2)=1+x / 2:=IntWalk.i64_in _ (by omega);have HN4:=hide XU;have JI:=hide hg4;have hnum':=FD;clear FD UD XU hg4;have Y3:Hid (w.heap.size<=w3.heap.size):=hide (Nat.le_trans (Nat.le_trans TJ HR.out.grown.size) JI.out.size);have WN:=Y3.out;have HF3:=hide (wZ HN3.out.blk.ty JI.out (wZ hnum'.blk.ty HR.out.grown HT.out.fresh));have Uo:Hid (Sl w2 (New w w2 36) B n1 d vs):=hide (by
    have hl:=HR.out.len;obtain ⟨A',c',hv,hs,_⟩:=gP (S:=λ_=>False) (T:=New w w2 36) HR.out.stk.own (pX w2 _ HR.out.stk.ok) (λ_ h=>h.elim) rfl (λg hg ht=>⟨Nat.le_trans TJ hg,ht⟩);injection hv with h1 _ h3;subst h1 h3;rw[hl]at hs;exact hs)
   have YZ:=hide (KJ (by decide) HN3.out.blk.ty JI.out Uo.out);have Yt:Hid (GI cols ⟨vs,1+x / 2⟩):=hide ⟨by show vs.length=_;rw[HR.out.len,hcl.out],λi hi=>HR.out.fits i (by rw[<-hcl.out];exact hi),by show 1<=1+x / 2;omega,by show 1+x / 2<=2;omega⟩;obtain ⟨cs,hown,hcells⟩:=HF3.out;obtain ⟨kx,hkx⟩: ∃kx,xs.length=kx:=⟨_,rfl⟩;rw[hkx]at hown;have Xc:=hide hkx;have hkx1:kx<=1000:=by omega
   have HOW:=hide hown;have I4:=hide hcells;clear hkx hown hcells;go_wp2_with (at_builtin;refine iK _ rfl (.tmp 19) (.tmp 28) 27 rfl w.heap.size 50 i0 _ 2 32 Tryz.underlying27 hi hz0 hz1 hz2 rfl (by decide) u7 kx cs rfl (HOW.out.alloc _) (some ⟨w3.heap.size,0,none⟩) 1 1 [.slice B n1 d,.int .i64 (1+x / 2)] rfl (by intro h;cases h) (nL (by simp[go_sem]) (by simp[go_sem])) l7 (by simp only[maxLen];omega) (by omega) (by simp;omega) ?_;intro v1 w5 hown1 hg1 qP);have vO:Hid (Below w.heap.size (w3.alloc (.cells #[.slice B n1 d,.int .i64 (1+x / 2)] 50)) w5):=hide ((Below.refl _ _).grown hg1 (by simp;omega) (λj e=>(HOW.out.lt j e).1));have HTN:Hid (TabAt w w5 gb A n c l cols v1 (xs++[⟨vs,1+x / 2⟩])):=hide (by
    refine ⟨aD.add (x:=⟨vs,1+x / 2⟩) (by rw[Xc.out];exact HOW.out.alloc _) ((I4.out.keep ((Same.below ae).sub λk hk=>hk.2.lt)).mono λk hk=>⟨hk.1,hk.2.below ae⟩) ((YZ.out.keep ((Same.below ae).sub λk hk=>hk.2.lt)).mono λk hk=>⟨hk.1,hk.2.below ae⟩) ⟨by show -9223372036854775808<=1+x / 2;omega,by show 1+x / 2<=9223372036854775807;omega⟩ (λk hk hne=>hg1.block k hk (λe=>hne e.symm)) (by rw[Xc.out];exact hown1),λy hy=>?_,⟨j4,(HN4.out.below ae).low vO.out hlow⟩,Co (((HT.out.grown.trans HR.out.grown).trans JI.out).trans (Below.grows ae _)) vO.out⟩;rcases List.mem_append.1 hy with hy|hy
    ·exact HT.out.ents y hy
    ·simp at hy;subst hy;exact Yt.out)
   clear hown1 hg1 qP;go_wp2;go_roundw
   case rel=>exact ⟨k-1,xs++[⟨vs,1+x / 2⟩],by go_num,by rw[List.length_append];show xs.length+1+(k-1)<=1000;omega,HTN.out⟩
   case measure=>simp[intOf];omega
  ·have hk0:k=0:=by omega
   subst hk0;obtain ⟨A7,c7,rfl,hin⟩:=HT.out.fresh.sl;go_wp2_with fail;refine (Bw wr A7 _ c7 xs hin (by omega)).mono ?_;rintro e w2 ⟨⟨v,q,zs,rfl,hf,hn⟩,hb2⟩;have HF:=hide (hf.base TJ);have HN:=hide hn;have HB2:=hide hb2;have HNU:=hide FD;clear hf hn hb2 FD hin;go_wp2;go_ret;exact ⟨v,xs,zs,q,j2,rfl,HF.out,HT.out.ents,by omega,HN.out,HNU.out.below HB2.out,HT.out.grown.trans (Below.grows HB2.out _)⟩
section
variable {P:Program}
end
def Hi {α:Type}[Rep α](B:Nat)(w:World)(A:Option Addr)(n c:Nat)(xs:List α):Prop:=Sl w (λk=>B<=k/\k<w.heap.size) A n c xs
section
variable {α:Type}[Rep α]{B gb:Nat}{w w':World}{A:Option Addr}{n c:Nat}{xs:List α}
theorem Hi.inn (h:Hi B w A n c xs):In w A n c xs:=Sl.mono (λk hk=>hk.2) h
theorem Hi.off (h:Hi B w A n c xs)(hg:gb<B):Off w gb A n c xs:=Sl.mono (λk hk=>⟨hk.2,by omega⟩) h
theorem Hi.grown {row:Option Nat}(h:Hi B w A n c xs)(hg:w.grownBy w' row)(hr: ∀k,row=some k->k<B):Hi B w' A n c xs:=
 (Sl.keep (λk hk=>hg.block k hk.2 λe=>by have:=hr k e.symm;omega) h).mono λk hk=>⟨hk.1,Nat.lt_of_lt_of_le hk.2 hg.size⟩
theorem Hi.below (h:Hi B w A n c xs)(hb:Below w.heap.size w w'):Hi B w' A n c xs:=h.grown (row:=none) (Below.grows hb _) λk e=>by cases e
theorem Ww (h:In w A n c xs)(hr: ∀(S T:Nat->Prop) (cs:List Value) (a:α),Rep.rd w S cs a->Rep.rd w T cs a)(hb: ∀b off,A=some ⟨b,off,none⟩->B<=b):Hi B w A n c xs:=by
 refine ⟨h.1,h.2.1,h.2.2.1,h.2.2.2.1,λhn=>?_⟩;obtain ⟨b,off,e,hlt,hi⟩:=h.2.2.2.2 hn;refine ⟨b,off,e,⟨hb b off e,hlt⟩,λi hi'=>?_⟩;obtain ⟨cs,h1,h3⟩:=hi i hi';exact ⟨cs,hr _ _ cs _ h1,h3⟩
end
theorem aD.hi {w w':World}{v:Value}{zs:List Ent}(h:aD w w' v zs): ∃A c,v=.slice A zs.length c/\Hi w.heap.size w' A zs.length c zs:=by
 obtain ⟨cs,h1,h2⟩:=h;obtain ⟨A,c,e,hs,_⟩:=gP (T:=λk=>w.heap.size<=k/\k<w'.heap.size) h1 h2 (λk hk=>⟨hk.1,hk.2.lt⟩) rfl (λg hb hg=>⟨hb,hg.lt⟩);exact ⟨A,c,e,hs⟩
def sV (cols:List Col)(zs:List Ent):Prop:= ∃xs q,(∀x∈xs,GI cols x)/\xs.length<=1000/\yB xs q zs
end Go.Proofs.YtopjjlmfilgngaaGreatDoor
