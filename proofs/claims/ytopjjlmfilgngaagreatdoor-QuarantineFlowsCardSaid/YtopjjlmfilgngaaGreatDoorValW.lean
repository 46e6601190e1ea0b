/-
  warehouseworld.Value: a value that fits a column.
-/
import Derived.Test.YtopjjlmfilgngaaGreatDoorGar
import Derived.Test.YtopjjlmfilgngaaGreatDoorGad
namespace Go.Proofs.YtopjjlmfilgngaaGreatDoor
set_option maxHeartbeats 4000000
set_option maxRecDepth 100000
open Go.RowKit
set_option linter.unusedSimpArgs false
set_option linter.unusedVariables false
theorem kU {w W:World}{row:Option Nat}{b o:Nat}{v:Value}(h:w.grownBy W row)(hb:w.heap.size<=b):w.grownBy (W.setCell ⟨b,o,none⟩ v) row:=
 ⟨h.os,h.tape,h.output,by have:=h.size;simpa using this,λk hk hr=>(Below.heap_setCell _ _ _ k (λe=>by have e:k=b:=e;omega)).trans (h.block k hk hr)⟩
theorem xc {w:World}{row:Option Nat}(o o':Obj):w.grownBy ((w.alloc o).alloc o') row:=Below.grows below_alloc2 _
structure VS (w W:World) (gb:Nat) (A:Option Addr) (n c:Nat) (l:List Int) (i:Nat) (nm:ByteArray) (kd:Int) (nl:Bool):Prop where
 k:W.cell? ⟨w.heap.size,1,none⟩=some (.int .i64 kd)
 u:W.cell? ⟨w.heap.size,2,none⟩=some (.bool nl)
 blk:bF W (w.heap.size+1) 36 3
 num:Num W gb A n c l i
 grown:w.grownBy W (some gb)
 low:gb<w.heap.size
section
variable {w W W':World}{gb:Nat}{A:Option Addr}{n c:Nat}{l:List Int}{i j:Nat}{nm:ByteArray}{kd:Int}{nl:Bool}
theorem VS.made (h:Num w gb A n c l i)(nm:ByteArray)(kd:Int)(nl:Bool):VS w ((w.alloc (.cells #[.string nm,.int .i64 kd,.bool nl] 82)).alloc (.cells #[.int .i64 0,.int .i64 0,.string ⟨#[]⟩] 36)) gb A n c l i nm kd nl:=by
 have h1:=qm (y5 w (.cells #[.string nm,.int .i64 kd,.bool nl] 82) (.cells #[.int .i64 0,.int .i64 0,.string ⟨#[]⟩] 36));have hr:=bF.made (w.alloc (.cells #[.string nm,.int .i64 kd,.bool nl] 82)) #[.int .i64 0,.int .i64 0,.string ⟨#[]⟩] 36 3 rfl;rw[World.size_alloc]at hr;exact ⟨h1 1 _ rfl,h1 2 _ rfl,hr,h.below below_alloc2,xc _ _,h.lt⟩
theorem VS.step (h:VS w W gb A n c l i nm kd nl)(hg:W.grownBy W' (some gb))(hn:Num W' gb A n c l j):VS w W' gb A n c l j nm kd nl:=by
 have hl:=h.low;have hs:w.heap.size<W.heap.size:=lt_of_cell h.k;have hb: ∀k,w.heap.size<=k->k<W.heap.size->W'.heap[k]?=W.heap[k]?:=λk h1 h2=>hg.block k h2 (λe=>by injection e with e;omega);obtain ⟨cur,hc,hm⟩:=h.blk;exact ⟨(World.cell?_of_block (a:=⟨w.heap.size,1,none⟩) (hb _ (Nat.le_refl _) hs)).trans h.k,(World.cell?_of_block (a:=⟨w.heap.size,2,none⟩) (hb _ (Nat.le_refl _) hs)).trans h.u,
  ⟨cur,(hb _ (Nat.le_succ _) h.blk.lt).trans hc,hm⟩,hn,h.grown.trans hg,hl⟩
theorem VS.below (h:VS w W gb A n c l i nm kd nl)(hb:Below W.heap.size W W'):VS w W' gb A n c l i nm kd nl:=h.step (Below.grows hb _) (h.num.below hb)
theorem VS.store (h:VS w W gb A n c l i nm kd nl)(a b:Int)(s:ByteArray):
  (∀j v,[Value.int .i64 a,Value.int .i64 b,Value.string s][j]?=some v->(((W.setCell ⟨w.heap.size+1,0,none⟩ (.int .i64 a)).setCell ⟨w.heap.size+1,1,none⟩ (.int .i64 b)).setCell ⟨w.heap.size+1,2,none⟩ (.string s)).cell? ⟨w.heap.size+1,j,none⟩=some v)/\
  Num (((W.setCell ⟨w.heap.size+1,0,none⟩ (.int .i64 a)).setCell ⟨w.heap.size+1,1,none⟩ (.int .i64 b)).setCell ⟨w.heap.size+1,2,none⟩ (.string s)) gb A n c l i/\
  w.grownBy (((W.setCell ⟨w.heap.size+1,0,none⟩ (.int .i64 a)).setCell ⟨w.heap.size+1,1,none⟩ (.int .i64 b)).setCell ⟨w.heap.size+1,2,none⟩ (.string s)) (some gb):=by
 have hl:=h.low;obtain ⟨u0,e0⟩:=h.blk.cell (o:=0) (by omega);obtain ⟨u1,e1⟩:=h.blk.cell (o:=1) (by omega);obtain ⟨u2,e2⟩:=h.blk.cell (o:=2) (by omega);exact ⟨eZ e0 e1 e2,((h.num.grown mQ (λk e=>by injection e with e;omega)).grown mQ (λk e=>by injection e with e;omega)).grown mQ (λk e=>by injection e with e;omega),
  kU (kU (kU h.grown (Nat.le_succ _)) (Nat.le_succ _)) (Nat.le_succ _)⟩
end
theorem zb (w:World):In (w.alloc (.cells #[.string ⟨#[]⟩,.string ⟨#[97]⟩,.string ⟨#[98]⟩,.string ⟨#[105,116,39,115]⟩,.string ⟨#[122,122]⟩] 9)) (some ⟨w.heap.size,0,none⟩) 5 5 [(⟨#[]⟩:ByteArray),⟨#[97]⟩,⟨#[98]⟩,⟨#[105,116,39,115]⟩,⟨#[122,122]⟩]:=by
 have h: ∀(xs:List ByteArray) (W:World) (S:Nat->Prop),(∀x∈xs,x.size<=9223372036854775807)->Cells W S (xs.map Value.string) xs:=λxs=>by
  induction xs with
  |nil=>intro W S _;rfl
  |cons x l ih=>intro W S hx;exact ⟨[.string x],_,rfl,⟨rfl,hx x (by simp)⟩,ih W S λy hy=>hx y (by simp[hy])⟩
 exact fC (heap_alloc_new w _) (h [⟨#[]⟩,⟨#[97]⟩,⟨#[98]⟩,⟨#[105,116,39,115]⟩,⟨#[122,122]⟩] _ _ (by decide)) rfl (by decide)
theorem BL (w:World)(gb:Nat)(A:Option Addr)(n c:Nat)(l:List Int)(i:Nat)(hN:Num w gb A n c l i)(nm:ByteArray)(kd:Int)(nl:Bool)(hc:(⟨nm,kd,nl⟩:Col).good):
  Calls Tryz.prog 71 #[.agg #[.string nm,.int .i64 kd,.bool nl],.pointer (some ⟨gb,0,none⟩)] w
   λe w'=>(∃v j,e=.returned (.agg #[.int .i64 v.kind,.int .i64 v.num,.string v.str])/\Fits ⟨nm,kd,nl⟩ v/\Num w' gb A n c l j)/\w.grownBy w' (some gb):=by
 have HC:=hide hc;have HV:=hide (VS.made hN nm kd nl);have hk:kd=1\/kd=2\/kd=3\/kd=4:=by have:=hc.2;show kd=1\/_;have h1:1<=kd:=this.1;have h2:kd<=4:=this.2;omega
 clear hc;go_enter Tryz.func71,Tryz.ntmps71;have k0:=HV.out.k;have u0:=HV.out.u;have hlow:=hN.lt;cases nl
 ·rcases hk with rfl|rfl|rfl|rfl
  ·go_wp2_with fail;refine (eH _ gb A n c l _ HV.out.num 2 (by omega)).mono ?_;rintro e W2 ⟨⟨v,j,rfl,v0,v1,hn2⟩,hg2⟩;have v1:=v1 (by omega);have HV:=hide (HV.out.step hg2 hn2);clear hn2 hg2;have b0:=HV.out.blk.frozen 0;have b1:=HV.out.blk.frozen 1;have b2:=HV.out.blk.frozen 2;obtain ⟨u0,e0⟩:=HV.out.blk.cell (o:=0) (by omega);obtain ⟨u1,e1⟩:=HV.out.blk.cell (o:=1) (by omega);obtain ⟨u2,e2⟩:=HV.out.blk.cell (o:=2) (by omega);go_wp2;obtain ⟨q1,q2,q3⟩:=HV.out.store 1 v ⟨#[]⟩;refine bodyPost_ret (v:=.agg #[.int .i64 1,.int .i64 v,.string ⟨#[]⟩]) (bC (cs:=[.int .i64 1,.int .i64 v,.string ⟨#[]⟩]) rfl _ _ (w.heap.size+1) _ rfl q1 Tryz.underlying36 rfl (by kernel_rfl)) rfl ⟨⟨⟨1,v,⟨#[]⟩⟩,_,rfl,fT HC.out (vZ v0 (by omega)),q2⟩,q3⟩
  ·go_wp2_with fail;refine (eH _ gb A n c l _ HV.out.num 7 (by omega)).mono ?_;rintro e W2 ⟨⟨v,j,rfl,v0,v1,hn2⟩,hg2⟩;have v1:=v1 (by omega);have q7:IntKind.i64.wrap (v-1)=v-1:=IntWalk.i64_in _ (by omega);have HV:=hide (HV.out.step hg2 hn2);clear hn2 hg2;have b0:=HV.out.blk.frozen 0;have b1:=HV.out.blk.frozen 1;have b2:=HV.out.blk.frozen 2;obtain ⟨u0,e0⟩:=HV.out.blk.cell (o:=0) (by omega);obtain ⟨u1,e1⟩:=HV.out.blk.cell (o:=1) (by omega);obtain ⟨u2,e2⟩:=HV.out.blk.cell (o:=2) (by omega);go_wp2;obtain ⟨q1,q2,q3⟩:=HV.out.store 2 (v-1) ⟨#[]⟩;refine bodyPost_ret (v:=.agg #[.int .i64 2,.int .i64 (v-1),.string ⟨#[]⟩]) (bC (cs:=[.int .i64 2,.int .i64 (v-1),.string ⟨#[]⟩]) rfl _ _ (w.heap.size+1) _ rfl q1 Tryz.underlying36 rfl (by kernel_rfl)) rfl ⟨⟨⟨2,(v-1),⟨#[]⟩⟩,_,rfl,fT HC.out (zq (by omega) (by omega)),q2⟩,q3⟩
  ·go_wp2_with fail;have HV:=hide (HV.out.below (ae (o:=.cells #[.string ⟨#[]⟩,.string ⟨#[97]⟩,.string ⟨#[98]⟩,.string ⟨#[105,116,39,115]⟩,.string ⟨#[122,122]⟩] 9)));have hst:=zb ((w.alloc (.cells #[.string nm,.int .i64 3,.bool false] 82)).alloc (.cells #[.int .i64 0,.int .i64 0,.string ⟨#[]⟩] 36));refine (eH _ gb A n c l _ HV.out.num 5 (by omega)).mono ?_;rintro e W2 ⟨⟨v,j,rfl,v0,v1,hn2⟩,hg2⟩;have v1:=v1 (by omega);obtain ⟨vn,rfl⟩: ∃vn:Nat,v=(vn:Int):=⟨v.toNat,by omega⟩;obtain ⟨b,off,x,e,hB,HX,c0,c1⟩:=hst.str (k:=vn) (by omega);injection e with e;injection e with e1 e2;have hgb:gb<((w.alloc (.cells #[.string nm,.int .i64 3,.bool false] 82)).alloc (.cells #[.int .i64 0,.int .i64 0,.string ⟨#[]⟩] 36)).heap.size:=by simp;omega
   have c0:W2.cell? ⟨((w.alloc (.cells #[.string nm,.int .i64 3,.bool false] 82)).alloc (.cells #[.int .i64 0,.int .i64 0,.string ⟨#[]⟩] 36)).heap.size,0+vn,none⟩=some (.string x):=by
    rw[e1,e2];exact (World.cell?_of_block (a:=⟨b,off+vn,none⟩) (hg2.block b hB (λe=>by injection e with e;omega))).trans c0
   rw[Nat.zero_add]at c0;have HM:Hid (Made 3 ⟨3,0,x⟩):=hide (wh (by
    have hm:=aF HX.out;have hall: ∀y∈[(⟨#[]⟩:ByteArray),⟨#[97]⟩,⟨#[98]⟩,⟨#[105,116,39,115]⟩,⟨#[122,122]⟩],y.size<=64:=by decide
    exact hall x hm))
   have n0:(0:Int)<=(vn:Int):=by omega
   have n1:(vn:Int)<5:=by omega
   have HV:=hide (HV.out.step hg2 hn2);clear hn2 hg2 hst HX e1 e2 hgb;simp only[World.size_alloc]at c0;have b0:=HV.out.blk.frozen 0;have b1:=HV.out.blk.frozen 1;have b2:=HV.out.blk.frozen 2;obtain ⟨u0,e0⟩:=HV.out.blk.cell (o:=0) (by omega);obtain ⟨u1,e1⟩:=HV.out.blk.cell (o:=1) (by omega);obtain ⟨u2,e2⟩:=HV.out.blk.cell (o:=2) (by omega);go_wp2;obtain ⟨q1,q2,q3⟩:=HV.out.store 3 0 x;refine bodyPost_ret (v:=.agg #[.int .i64 3,.int .i64 0,.string x]) (bC (cs:=[.int .i64 3,.int .i64 0,.string x]) rfl _ _ (w.heap.size+1) _ rfl q1 Tryz.underlying36 rfl (by kernel_rfl)) rfl ⟨⟨⟨3,0,x⟩,_,rfl,fT HC.out HM.out,q2⟩,q3⟩
  ·go_wp2_with fail;refine (pJ _).mono ?_;rintro e W1 ⟨⟨li,rfl,hin,hall⟩,hb1⟩;have HV:=hide (HV.out.below hb1);go_wp2_with fail;refine (eH _ gb A n c l _ HV.out.num 16 (by omega)).mono ?_;rintro e W2 ⟨⟨v,j,rfl,v0,v1,hn2⟩,hg2⟩;have v1:=v1 (by omega);obtain ⟨vn,rfl⟩: ∃vn:Nat,v=(vn:Int):=⟨v.toNat,by omega⟩;obtain ⟨b,off,x,e,hB,HX,c0,c1⟩:=hin.int (k:=vn) (by omega);injection e with e;injection e with e1 e2;have hgb:gb<((w.alloc (.cells #[.string nm,.int .i64 4,.bool false] 82)).alloc (.cells #[.int .i64 0,.int .i64 0,.string ⟨#[]⟩] 36)).heap.size:=by simp;omega
   have c0:W2.cell? ⟨((w.alloc (.cells #[.string nm,.int .i64 4,.bool false] 82)).alloc (.cells #[.int .i64 0,.int .i64 0,.string ⟨#[]⟩] 36)).heap.size,0+vn,none⟩=some (.int .i64 x):=by
    rw[e1,e2];exact (World.cell?_of_block (a:=⟨b,off+vn,none⟩) (hg2.block b hB (λe=>by injection e with e;omega))).trans c0
   rw[Nat.zero_add]at c0;have hx:=hall x (aF HX.out);have n0:(0:Int)<=(vn:Int):=by omega
   have n1:(vn:Int)<16:=by omega
   have HV:=hide (HV.out.step hg2 hn2);clear hn2 hg2 hall HX hin hb1 e1 e2 hgb;simp only[World.size_alloc]at c0;have b0:=HV.out.blk.frozen 0;have b1:=HV.out.blk.frozen 1;have b2:=HV.out.blk.frozen 2;obtain ⟨u0,e0⟩:=HV.out.blk.cell (o:=0) (by omega);obtain ⟨u1,e1⟩:=HV.out.blk.cell (o:=1) (by omega);obtain ⟨u2,e2⟩:=HV.out.blk.cell (o:=2) (by omega);go_wp2;obtain ⟨q1,q2,q3⟩:=HV.out.store 4 x ⟨#[]⟩;refine bodyPost_ret (v:=.agg #[.int .i64 4,.int .i64 x,.string ⟨#[]⟩]) (bC (cs:=[.int .i64 4,.int .i64 x,.string ⟨#[]⟩]) rfl _ _ (w.heap.size+1) _ rfl q1 Tryz.underlying36 rfl (by kernel_rfl)) rfl ⟨⟨⟨4,x,⟨#[]⟩⟩,_,rfl,fT HC.out (wm hx.1 hx.2),q2⟩,q3⟩
 ·go_wp2_with fail;refine (eH _ gb A n c l _ HV.out.num 5 (by omega)).mono ?_;rintro e W0 ⟨⟨v,j,rfl,v0,v1,hn2⟩,hg2⟩;have HV:=hide (HV.out.step hg2 hn2);clear hn2 hg2 k0 u0;have k0:=HV.out.k;have u0:=HV.out.u;have hl0:=HV.out.num.lt;by_cases hv:v=0
  ·subst hv;have b0:=HV.out.blk.frozen 0;have b1:=HV.out.blk.frozen 1;have b2:=HV.out.blk.frozen 2;obtain ⟨u0,e0⟩:=HV.out.blk.cell (o:=0) (by omega);obtain ⟨u1,e1⟩:=HV.out.blk.cell (o:=1) (by omega);obtain ⟨u2,e2⟩:=HV.out.blk.cell (o:=2) (by omega);go_wp2;obtain ⟨q1,q2,q3⟩:=HV.out.store 0 0 ⟨#[]⟩;refine bodyPost_ret (v:=.agg #[.int .i64 0,.int .i64 0,.string ⟨#[]⟩]) (bC (cs:=[.int .i64 0,.int .i64 0,.string ⟨#[]⟩]) rfl _ _ (w.heap.size+1) _ rfl q1 Tryz.underlying36 rfl (by kernel_rfl)) rfl ⟨⟨⟨0,0,⟨#[]⟩⟩,_,rfl,Db rfl,q2⟩,q3⟩
  ·have qv:(v==0)=false:=by simpa using hv
   clear hv;rcases hk with rfl|rfl|rfl|rfl
   ·go_wp2_with fail;refine (eH _ gb A n c l _ HV.out.num 2 (by omega)).mono ?_;rintro e W2 ⟨⟨v,j,rfl,v0,v1,hn2⟩,hg2⟩;have v1:=v1 (by omega);have HV:=hide (HV.out.step hg2 hn2);clear hn2 hg2;have b0:=HV.out.blk.frozen 0;have b1:=HV.out.blk.frozen 1;have b2:=HV.out.blk.frozen 2;obtain ⟨u0,e0⟩:=HV.out.blk.cell (o:=0) (by omega);obtain ⟨u1,e1⟩:=HV.out.blk.cell (o:=1) (by omega);obtain ⟨u2,e2⟩:=HV.out.blk.cell (o:=2) (by omega);go_wp2;obtain ⟨q1,q2,q3⟩:=HV.out.store 1 v ⟨#[]⟩;refine bodyPost_ret (v:=.agg #[.int .i64 1,.int .i64 v,.string ⟨#[]⟩]) (bC (cs:=[.int .i64 1,.int .i64 v,.string ⟨#[]⟩]) rfl _ _ (w.heap.size+1) _ rfl q1 Tryz.underlying36 rfl (by kernel_rfl)) rfl ⟨⟨⟨1,v,⟨#[]⟩⟩,_,rfl,fT HC.out (vZ v0 (by omega)),q2⟩,q3⟩
   ·go_wp2_with fail;refine (eH _ gb A n c l _ HV.out.num 7 (by omega)).mono ?_;rintro e W2 ⟨⟨v,j,rfl,v0,v1,hn2⟩,hg2⟩;have v1:=v1 (by omega);have q7:IntKind.i64.wrap (v-1)=v-1:=IntWalk.i64_in _ (by omega);have HV:=hide (HV.out.step hg2 hn2);clear hn2 hg2;have b0:=HV.out.blk.frozen 0;have b1:=HV.out.blk.frozen 1;have b2:=HV.out.blk.frozen 2;obtain ⟨u0,e0⟩:=HV.out.blk.cell (o:=0) (by omega);obtain ⟨u1,e1⟩:=HV.out.blk.cell (o:=1) (by omega);obtain ⟨u2,e2⟩:=HV.out.blk.cell (o:=2) (by omega);go_wp2;obtain ⟨q1,q2,q3⟩:=HV.out.store 2 (v-1) ⟨#[]⟩;refine bodyPost_ret (v:=.agg #[.int .i64 2,.int .i64 (v-1),.string ⟨#[]⟩]) (bC (cs:=[.int .i64 2,.int .i64 (v-1),.string ⟨#[]⟩]) rfl _ _ (w.heap.size+1) _ rfl q1 Tryz.underlying36 rfl (by kernel_rfl)) rfl ⟨⟨⟨2,(v-1),⟨#[]⟩⟩,_,rfl,fT HC.out (zq (by omega) (by omega)),q2⟩,q3⟩
   ·go_wp2_with fail;have HV:=hide (HV.out.below (ae (o:=.cells #[.string ⟨#[]⟩,.string ⟨#[97]⟩,.string ⟨#[98]⟩,.string ⟨#[105,116,39,115]⟩,.string ⟨#[122,122]⟩] 9)));have hst:=zb W0;refine (eH _ gb A n c l _ HV.out.num 5 (by omega)).mono ?_;rintro e W2 ⟨⟨v,j,rfl,v0,v1,hn2⟩,hg2⟩;have v1:=v1 (by omega);obtain ⟨vn,rfl⟩: ∃vn:Nat,v=(vn:Int):=⟨v.toNat,by omega⟩;obtain ⟨b,off,x,e,hB,HX,c0,c1⟩:=hst.str (k:=vn) (by omega);injection e with e;injection e with e1 e2;have hgb:gb<W0.heap.size:=hl0;have c0:W2.cell? ⟨W0.heap.size,0+vn,none⟩=some (.string x):=by
     rw[e1,e2];exact (World.cell?_of_block (a:=⟨b,off+vn,none⟩) (hg2.block b hB (λe=>by injection e with e;omega))).trans c0
    rw[Nat.zero_add]at c0;have HM:Hid (Made 3 ⟨3,0,x⟩):=hide (wh (by
     have hm:=aF HX.out;have hall: ∀y∈[(⟨#[]⟩:ByteArray),⟨#[97]⟩,⟨#[98]⟩,⟨#[105,116,39,115]⟩,⟨#[122,122]⟩],y.size<=64:=by decide
     exact hall x hm))
    have n0:(0:Int)<=(vn:Int):=by omega
    have n1:(vn:Int)<5:=by omega
    have HV:=hide (HV.out.step hg2 hn2);clear hn2 hg2 hst HX e1 e2 hgb;have b0:=HV.out.blk.frozen 0;have b1:=HV.out.blk.frozen 1;have b2:=HV.out.blk.frozen 2;obtain ⟨u0,e0⟩:=HV.out.blk.cell (o:=0) (by omega);obtain ⟨u1,e1⟩:=HV.out.blk.cell (o:=1) (by omega);obtain ⟨u2,e2⟩:=HV.out.blk.cell (o:=2) (by omega);go_wp2;obtain ⟨q1,q2,q3⟩:=HV.out.store 3 0 x;refine bodyPost_ret (v:=.agg #[.int .i64 3,.int .i64 0,.string x]) (bC (cs:=[.int .i64 3,.int .i64 0,.string x]) rfl _ _ (w.heap.size+1) _ rfl q1 Tryz.underlying36 rfl (by kernel_rfl)) rfl ⟨⟨⟨3,0,x⟩,_,rfl,fT HC.out HM.out,q2⟩,q3⟩
   ·go_wp2_with fail;refine (pJ _).mono ?_;rintro e W1 ⟨⟨li,rfl,hin,hall⟩,hb1⟩;have HV:=hide (HV.out.below hb1);go_wp2_with fail;refine (eH _ gb A n c l _ HV.out.num 16 (by omega)).mono ?_;rintro e W2 ⟨⟨v,j,rfl,v0,v1,hn2⟩,hg2⟩;have v1:=v1 (by omega);obtain ⟨vn,rfl⟩: ∃vn:Nat,v=(vn:Int):=⟨v.toNat,by omega⟩;obtain ⟨b,off,x,e,hB,HX,c0,c1⟩:=hin.int (k:=vn) (by omega);injection e with e;injection e with e1 e2;have hgb:gb<W0.heap.size:=hl0;have c0:W2.cell? ⟨W0.heap.size,0+vn,none⟩=some (.int .i64 x):=by
     rw[e1,e2];exact (World.cell?_of_block (a:=⟨b,off+vn,none⟩) (hg2.block b hB (λe=>by injection e with e;omega))).trans c0
    rw[Nat.zero_add]at c0;have hx:=hall x (aF HX.out);have n0:(0:Int)<=(vn:Int):=by omega
    have n1:(vn:Int)<16:=by omega
    have HV:=hide (HV.out.step hg2 hn2);clear hn2 hg2 hall HX hin hb1 e1 e2 hgb;have b0:=HV.out.blk.frozen 0;have b1:=HV.out.blk.frozen 1;have b2:=HV.out.blk.frozen 2;obtain ⟨u0,e0⟩:=HV.out.blk.cell (o:=0) (by omega);obtain ⟨u1,e1⟩:=HV.out.blk.cell (o:=1) (by omega);obtain ⟨u2,e2⟩:=HV.out.blk.cell (o:=2) (by omega);go_wp2;obtain ⟨q1,q2,q3⟩:=HV.out.store 4 x ⟨#[]⟩;refine bodyPost_ret (v:=.agg #[.int .i64 4,.int .i64 x,.string ⟨#[]⟩]) (bC (cs:=[.int .i64 4,.int .i64 x,.string ⟨#[]⟩]) rfl _ _ (w.heap.size+1) _ rfl q1 Tryz.underlying36 rfl (by kernel_rfl)) rfl ⟨⟨⟨4,x,⟨#[]⟩⟩,_,rfl,fT HC.out (wm hx.1 hx.2),q2⟩,q3⟩
end Go.Proofs.YtopjjlmfilgngaaGreatDoor
