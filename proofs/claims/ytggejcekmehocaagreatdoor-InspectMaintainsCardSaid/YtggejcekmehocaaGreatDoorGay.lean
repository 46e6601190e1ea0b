/-
  inspect.copied: a bag in new memory. Plain: the checks that chapter 29's laws make. No program is in sight. Plain law: a table of the world is a table: its counts are positive and small, its rows fit. The closures of check.violated; check.holds.
-/
import Derived.Deep.DeepCutAuto
import Derived.Test.YtggejcekmehocaaGreatDoorGar
import Derived.Test.YtggejcekmehocaaGreatDoorGal
import Derived.Test.YtggejcekmehocaaGreatDoorGax
import Derived.Test.YtggejcekmehocaaGreatDoorGam
import Derived.Test.YtggejcekmehocaaGreatDoorGau
import Derived.Test.YtggejcekmehocaaGreatDoorGan
import Derived.Test.YtggejcekmehocaaGreatDoorEvA
namespace Go.Proofs.YtggejcekmehocaaGreatDoor
set_option maxHeartbeats 4000000
set_option maxRecDepth 100000
open Go.RowKit
set_option linter.unusedSimpArgs false
set_option linter.unusedVariables false
def Ie (e:TypeId)(B:Nat)(T:List TypeId)(w:World)(v:Value)(xs:List Ent)(k:Nat):Prop:=
 (∃cs ds,w.ownsRow B e 2 v xs.length (cs++ds)/\Cells w (BS B (λ_=>False) T w) cs (xs.take k)/\Cells w (BS B (λ_=>True) T w) ds (xs.drop k))/\B<=w.heap.size
theorem QY {B:Nat}{T:List TypeId}{w:World}{k:Nat}(h:BS B (λ_=>False) T w k):BS B (λ_=>True) T w k:=by
 rcases h with ⟨h,_⟩|h
 ·cases h
 ·exact .inr h
theorem Ie.start {e:TypeId}{B:Nat}{T:List TypeId}{w:World}{v:Value}{xs:List Ent}(h:OL e B (λ_=>True) T w v xs):Ie e B T w v xs 0:=by
 obtain ⟨⟨cs,h1,h2⟩,hb⟩:=h;exact ⟨⟨[],cs,h1,rfl,h2⟩,hb⟩
theorem Ie.any {e:TypeId}{B:Nat}{T:List TypeId}{w:World}{v:Value}{xs:List Ent}{k:Nat}(h:Ie e B T w v xs k):OL e B (λ_=>True) T w v xs:=by
 obtain ⟨⟨cs,ds,h1,h2,h3⟩,hb⟩:=h;have h4:=Cells.app h3 (h2.mono λ_ hk=>QY hk);rw[List.take_append_drop]at h4;exact ⟨⟨_,h1,h4⟩,hb⟩
theorem Ie.fin {e:TypeId}{B:Nat}{T:List TypeId}{w:World}{v:Value}{xs:List Ent}{k:Nat}(h:Ie e B T w v xs k)(hk:xs.length<=k):OL e B (λ_=>False) T w v xs:=by
 obtain ⟨⟨cs,ds,h1,h2,h3⟩,hb⟩:=h;rw[List.drop_eq_nil_of_le hk]at h3;obtain rfl:ds=[]:=h3;rw[List.take_of_length_le hk]at h2;rw[List.append_nil]at h1;exact ⟨⟨_,h1,h2⟩,hb⟩
theorem Ie.below {e:TypeId}{B:Nat}{T:List TypeId}{w w1:World}{v:Value}{xs:List Ent}{k:Nat}(h:Ie e B T w v xs k)(hb:Below w.heap.size w w1):Ie e B T w1 v xs k:=by
 obtain ⟨⟨cs,ds,h1,h2,h3⟩,hB⟩:=h;have k1: ∀j,BS B (λ_=>False) T w j->w1.heap[j]?=w.heap[j]?:=λj hj=>hb.block j (hj.lt hB);have k2: ∀j,BS B (λ_=>True) T w j->w1.heap[j]?=w.heap[j]?:=λj hj=>hb.block j (hj.lt hB);exact ⟨⟨cs,ds,BQ h1 λg hg=>hb.block g (vL h1 hg).2.lt,(h2.keep k1).mono λj hj=>hj.kept (k1 j hj),(h3.keep k2).mono λj hj=>hj.kept (k2 j hj)⟩,Nat.le_trans hB hb.size⟩
theorem OL.addr {α:Type}[Rep α]{e:TypeId}{B:Nat}{O:Nat->Prop}{T:List TypeId}{w:World}{A:Option Addr}{n c:Nat}{xs:List α}(h:OL e B O T w (.slice A n c) xs)(hn:0<xs.length): ∃g,A=some ⟨g,0,none⟩/\B<=g/\eP w e g/\ ∀o,w.frozen? ⟨g,o,none⟩=false:=by
 obtain ⟨⟨cs,h1,h2⟩,hb⟩:=h;rcases h1.2 with ⟨_,h0⟩|⟨g,cap,cur,hv,hg,hh,_⟩
 ·omega
 ·injection hv with hv;exact ⟨g,hv,hg,⟨cur,hh⟩,λo=>frozen_of_row w g o _ _ hh⟩
theorem Ie.step {e:TypeId}{B:Nat}{T:List TypeId}{w:World}{g n c:Nat}{xs:List Ent}{k:Nat}(h:Ie e B T w (.slice (some ⟨g,0,none⟩) n c) xs k)(hT:e∉T){x:Ent}(hk:xs.drop k=x :: xs.drop (k+1)){A1:Option Addr}{m c1:Nat}(hs:Sl w (BS B (λ_=>False) T w) A1 m c1 x.row):
  Ie e B T (w.setCell ⟨g,k*2,none⟩ (.slice A1 m c1)) (.slice (some ⟨g,0,none⟩) n c) xs (k+1):=by
 obtain ⟨⟨cs,ds,h1,h2,h3⟩,hb⟩:=h;rw[hk]at h3;obtain ⟨a,b,rfl,⟨A0,n0,c0,rfl,hr1,hr2⟩,hc⟩:=h3;have hlen:cs.length=k*2:=by
  have h4:=h2.len;have h5:k<xs.length:=by
   rcases Nat.lt_or_ge k xs.length with q|q
   ·exact q
   ·rw[List.drop_eq_nil_of_le q]at hk;cases hk
  rw[h4,List.length_take,Nat.min_eq_left (by omega)];rfl
 rcases h1.2 with ⟨hv,_⟩|⟨g',cap,cur,hv,hg,hh,h4,h5,h6,h7⟩
 ·cases hv
 injection hv with hv q1 q2;injection hv with hv;injection hv with hv;subst hv q2;have hS: ∀(O:Nat->Prop) j,BS B O T w j->(w.setCell ⟨g,k*2,none⟩ (.slice A1 m c1)).heap[j]?=w.heap[j]?:=λO j hj=>Below.heap_setCell _ _ _ j (λq=>by
  have q:j=g:=q;subst q;rcases hj with ⟨_,hj⟩|⟨_,t',ht',hj⟩
  ·omega
  ·exact eP.ne ⟨cur,hh⟩ hj (λe'=>hT (e'▸ht')) rfl)
 refine ⟨⟨cs++[.slice A1 m c1,.int .i64 x.count],b,⟨?_,.inr ⟨g,c,cur.setIfInBounds (k*2) (.slice A1 m c1),by rw[q1],hg,by simp[World.setCell,Array.getElem?_modify,hh],h4,h5,by simpa using h6,?_⟩⟩,?_,?_⟩,by simpa[World.setCell] using hb⟩
 ·have h8:=h1.1;simp at h8⊢;omega
 ·rw[Array.toList_setIfInBounds,List.take_set,h7,<-hlen];simp
 ·rw[aV hk];refine Cells.app (Cells.one (show Rep.rd _ _ [.slice A1 m c1,.int .i64 x.count] x from ⟨_,_,_,rfl,(Sl.keep (λj hj=>hS _ j hj) hs).mono λj hj=>hj.kept (hS _ j hj),hr2⟩)) ((h2.keep (hS _)).mono λj hj=>hj.kept (hS _ j hj))
 ·exact (hc.keep (hS _)).mono λj hj=>hj.kept (hS _ j hj)
theorem rG (w:World)(A:Option Addr)(n c:Nat)(xs:List Ent)(hx:In w A n c xs)(hn:n<=4096)(hr: ∀x∈xs,x.row.length<=4096):
  Calls Tryz.prog 37 #[.slice A n c] w λe w'=>(∃v,e=.returned v/\OL 61 w.heap.size (λ_=>False) [74] w' v xs)/\Below w.heap.size w w':=by
 have HL:=hide hx.len;have HR:=hide hr;clear hr;go_enter Tryz.func37,Tryz.ntmps37;go_wp2_with fail;refine (Gl _ A n c xs hx (by omega)).mono ?_;rintro e w1 ⟨⟨A1,c1,rfl,ho⟩,hb1⟩;have WP:=hide (Ie.start (ho.types (T':=[74]) (by simp)));have HB0:=hide hb1;clear ho hb1;go_wp2;go_loopg [4,9] n (λleft j i wr=> ∃k:Nat,k+left=n/\i=.int .i64 k/\Ie 61 w.heap.size [74] wr (.slice A1 n c1) xs k/\Below w.heap.size w wr)
 case atStart=>exact ⟨0,by omega,rfl,WP.out,HB0.out⟩
 case round=>
  obtain ⟨k,hk,rfl,hol,hb⟩:=hrel;have oP:=hide hol;have HB:=hide hb;by_cases hlt:k<n
  ·obtain ⟨g,rfl,hg,hty,hfz⟩:=hol.any.addr (by rw[HL.out];omega);obtain ⟨b,off,x,heq,hBb,HX,Ax,An,Ac,e0,e1,e2,e3⟩:=(ol_in hol.any HL.out).ent hlt;injection heq with heq;injection heq with q1 q2;subst q1 q2;rw[Nat.zero_add]at e0 e1;have hxm:=mem_of_drop HX.out;have hAn:An<=4096:=by have:=HR.out x hxm;have:=e2.len;omega
   have k0:(0:Int)<=(k:Int):=by omega
   have k1:(k:Int)<(n:Int):=by omega
   have HE2:=hide e2;have hf0:=hfz (k*2);have Pb:=hty.lt;clear hol hb e1 e2 hfz hty;go_wp2_with fail;refine (wO _ Ax An Ac x.row HE2.out (by omega)).mono ?_;rintro e w2 ⟨⟨A2,c2,rfl,hs2⟩,hb2⟩;have e0':=bat hb2 Pb e0;have hf2:=((ai hb2).2 g (k*2) Pb).trans hf0;have hlt2:=Nat.lt_of_lt_of_le Pb hb2.size;have kv:=hide ((oP.out.below hb2).step (by decide) HX.out (hs2.mono λj hj=>.inr ⟨Nat.le_trans HB.out.size hj.1,_,by simp,hj.2⟩));have HB2:=hide ((HB.out.trans (hb2.mono HB.out.size)).setCell (p:=⟨g,k*2,none⟩) hg (.slice A2 An c2));clear e0 hf0 hs2 hb2 Pb;go_wp2;go_roundg (gk-1)
   case measure=>omega
   case rel=>exact ⟨k+1,by omega,by go_num,kv.out,HB2.out⟩
  ·have dB:=hide (oP.out.fin (by rw[HL.out];omega));go_wp2;go_ret;exact ⟨⟨_,rfl,dB.out⟩,HB.out⟩
def nV:ByteArray:=⟨#[118]⟩
def GN:ByteArray:=⟨#[105,100]⟩
def kG:ByteArray:=⟨#[110,97,109,101]⟩
def jb:List Col:=[cId false,Ud true,⟨nV,2,true⟩]
theorem pF: ∀x∈jb,x.good:=by
 intro x hx;simp only[jb,List.mem_cons,List.not_mem_nil,or_false]at hx;rcases hx with rfl|rfl|rfl <;> refine ⟨Rk ?_ ?_ ?_,?_,?_⟩ <;> decide
def Qh:List Node:=[⟨1,⟨0,0,⟨#[]⟩⟩,nV,0⟩,⟨1,⟨0,0,⟨#[]⟩⟩,GN,0⟩,⟨12,⟨0,0,⟨#[]⟩⟩,⟨#[]⟩,0⟩]
def jB (k:Int)(cs:List ByteArray)(on:ByteArray)(os:List ByteArray)(hi:Int)(cond:List Node)(ln ld mn md:Int):Chk:=⟨⟨#[99]⟩,⟨#[]⟩,k,cs,on,os,0,hi,cond,ln,ld,mn,md,1⟩
def EP:List (List ByteArray):=[[kG],[GN,nV],[nV]]
def ig:List Chk:=(EP.map λcs=>jB 0 cs ⟨#[]⟩ [] 0 [] 0 0 0 0)++(EP.map λcs=>jB 1 cs ⟨#[]⟩ [] 0 [] 0 0 0 0)++
 [jB 2 [nV] ⟨#[]⟩ [] 3 [] 0 0 0 0,jB 3 [kG] ⟨#[111]⟩ [kG] 0 [] 0 0 0 0,jB 3 [nV] ⟨#[111]⟩ [GN] 0 [] 0 0 0 0,jB 3 [kG,GN] ⟨#[111]⟩ [kG,nV] 0 [] 0 0 0 0,jB 6 [nV] ⟨#[111]⟩ [GN] 0 [] 0 0 0 0,jB 4 [] ⟨#[]⟩ [] 0 Qh 1 3 2 3,jB 5 [] ⟨#[]⟩ [] 0 Qh 1 3 2 3]
theorem Ri {cols:List Col}{xs:List Ent}(h: ∀x∈xs,Ga cols x)(r:List Val):0<=cnt xs r/\cnt xs r<=2*(xs.length:Int):=by
 induction xs with
 |nil=>simp[cnt]
 |cons x l ih=>
  have h1:=(h x (by simp)).2.2;have h2:=ih λy hy=>h y (by simp[hy]);rw[cnt,List.length_cons]
  split <;> omega
theorem uQ.tab {cols:List Col}(hl:cols.length<=12){zs:List Ent}(h:uQ cols zs):(∀x∈zs,0<x.count/\x.count<=2000)/\dh cols zs=0:=by
 obtain ⟨hb,hr,_⟩:=h.bag hl;obtain ⟨xs,q,h1,h2,h3⟩:=h;have hn:=zJ h3;rw[zI λx hx=>zZ hl (h1 x hx)]at hn;have hc: ∀x∈zs,0<x.count/\x.count<=2000:=by
  intro x hx;have hz:x.count≠0:=((dX.1 hb).2.1 x hx).2;rcases D6 xs with e|⟨_,e⟩
  ·have c:=bagS_cnt e x.row;rw[hn]at c;have d:=(bag_asc hb).mem hx;have b:=Ri h1 x.row;have c':cnt zs x.row=cnt xs x.row:=c;omega
  ·rw[hn]at e;have e':zs=[]:=e;subst e';cases hx
 refine ⟨hc,?_⟩;have ht:dS zs=true:=by
  rw[dS,hb];simp only[BEq.rfl,Bool.true_and,List.all_eq_true,decide_eq_true_eq];exact λx hx=>by have:=hc x hx;omega
 rw[dh,if_neg (by simp[hb]),ht,if_neg (by simp)];exact sO.2 λj x hx=>hr x (List.mem_iff_getElem?.2 ⟨j,hx⟩)
open Go.RowKit Go.Maps
structure OwnAt (W:World) (go gr gc:Nat) (A:Option Addr) (n c:Nat) (cols:List Col) (A3:Option Addr) (n3 c3:Nat) (names:List ByteArray):Prop where
 own:W.cell? ⟨go,0,none⟩=some (.func (.func 93) #[] #[.pointer (some ⟨gr,0,none⟩),.pointer (some ⟨gc,0,none⟩)])
 rel:W.cell? ⟨gr,1,none⟩=some (.slice A n c)
 chk:W.cell? ⟨gc,3,none⟩=some (.slice A3 n3 c3)
 cols:In W A n c cols
 names:In W A3 n3 c3 names
theorem OwnAt.below {W W':World}{go gr gc:Nat}{A:Option Addr}{n c:Nat}{cols:List Col}{A3:Option Addr}{n3 c3:Nat}{names:List ByteArray}(h:OwnAt W go gr gc A n c cols A3 n3 c3 names)(hb:Below W.heap.size W W'):OwnAt W' go gr gc A n c cols A3 n3 c3 names:=
 ⟨bat hb (lt_of_cell h.own) h.own,bat hb (lt_of_cell h.rel) h.rel,bat hb (lt_of_cell h.chk) h.chk,h.cols.below hb,h.names.below hb⟩
section
variable (W:World)(go gr gc:Nat)(A:Option Addr)(n c:Nat)(cols:List Col)(A3:Option Addr)(n3 c3:Nat)(names:List ByteArray)(h:OwnAt W go gr gc A n c cols A3 n3 c3 names)(hb0:n<=4096)(hb1:n3<=4096)(Ar:Option Addr)(nr cr:Nat)(row:List Val)(hr:In W Ar nr cr row)
include h hb0 hb1 hr in
theorem yB:
  Calls Tryz.prog 93 #[.slice Ar nr cr,.pointer (some ⟨gr,0,none⟩),.pointer (some ⟨gc,0,none⟩)] W
   λe w'=>(∃A' m c',e=.returned (.slice A' m c')/\In w' A' m c' (aF cols names row))/\Below W.heap.size W w':=by
 have e1:=h.rel;have e2:=h.chk;have HC:=hide h.cols;have HN:=hide h.names;clear h;go_enter Tryz.func93,Tryz.ntmps93;go_wp2_with fail;refine (zO _ A n c cols (by exact HC.out) A3 n3 c3 names (by exact HN.out) Ar nr cr row (by exact hr) (by omega) hb1).mono ?_;rintro e w1 ⟨⟨A',m,c',rfl,ho,hl,hm⟩,hb⟩;have HI:=hide (ol_in ho hl);have HB:=hide hb;clear ho hl hm hb;go_wp2;go_ret;exact ⟨⟨A',m,c',rfl,HI.out⟩,HB.out⟩
include h hb0 hb1 hr in
theorem Hl (gm b k:Nat)(hm:W.cell? ⟨gm,0,none⟩=some (.map (some b)))(f:ByteArray->Int)(hS:iC Tryz.prog 9 W b k (.int .i64 0) (λs=>.int .i64 (f s))):
  Calls Tryz.prog 95 #[.slice Ar nr cr,.pointer (some ⟨gm,0,none⟩),.pointer (some ⟨go,0,none⟩)] W
   λe w'=>e=.returned (.bool (decide (1<f (dC (aF cols names row)))))/\Below W.heap.size W w':=by
 have e0:=h.own;have l0:=lt_of_cell e0;have lm:=lt_of_cell hm;have HO:=hide h;have HS:=hide hS;have HR:=hide hr;have HM:=hide hm;have HE:=hide e0;have L0:=hide l0;have LM:=hide lm;obtain ⟨T,hT⟩: ∃T,dC (aF cols names row)=T:=⟨_,rfl⟩;have Kh:=hide (jP (aF cols names row));rw[hT]at Kh;have HT:=hide hT;rw[hT];clear hT h hS hr;obtain ⟨PV,vv⟩: ∃p,aF cols names row=p:=⟨_,rfl⟩;have FU:=hide λV hv hr=>yB V go gr gc A n c cols A3 n3 c3 names hv hb0 hb1 Ar nr cr row hr;rw[vv]at HT FU;clear vv;go_enter Tryz.func95,Tryz.ntmps95;go_wp2;have R4:True:=trivial;go_region_held3 (λV=>V.cell? ⟨gm,0,none⟩=some (.map (some b))/\V.cell? ⟨go,0,none⟩=some (.func (.func 93) #[] #[.pointer (some ⟨gr,0,none⟩),.pointer (some ⟨gc,0,none⟩)]))
  (first|exact ⟨bat HB2.out LM.out HM.out,bat HB2.out L0.out HE.out⟩|exact ⟨bat HB1.out LM.out HM.out,bat HB1.out L0.out HE.out⟩|exact ⟨hm,e0⟩)
  (first
   |(clear R4;go_at_call 93;refine (FU.out _ (by exact HO.out.below (Below.refl _ _).drew) (by exact HR.out.below (Below.refl _ _).drew)).mono ?_;rintro e w1 ⟨⟨A',m,c',rfl,hi⟩,hb⟩;have HI:=hide hi;have HB1:=hide (below_undrew hb);clear hi hb;have MJ:True:=trivial)
   |(clear MJ;go_at_call 96;refine (z8 _ A' m c' PV (by exact HI.out)).mono ?_;rintro e w2 ⟨rfl,hb2⟩;rw[HT.out];have HB2:=hide (aa HB1.out hb2);have LK:=(HS.out.below HB2.out).look (V:=w2) Tryz.underlying132 Tryz.underlying9 (λV=>Tryz.zeroValue3 V) Kh.out rfl;clear hb2;have SE:True:=trivial))
 go_wp2;go_ret;exact ⟨rfl,HB2.out⟩
include h hb0 hb1 hr in
theorem MP:
  Calls Tryz.prog 97 #[.slice Ar nr cr,.pointer (some ⟨go,0,none⟩)] W
   λe w'=>e=.returned (.bool (lg (aF cols names row)))/\Below W.heap.size W w':=by
 have e0:=h.own;have HO:=hide h;have HR:=hide hr;clear h hr;obtain ⟨PV,vv⟩: ∃p,aF cols names row=p:=⟨_,rfl⟩;have FU:=hide λV hv hr=>yB V go gr gc A n c cols A3 n3 c3 names hv hb0 hb1 Ar nr cr row hr;rw[vv]at FU⊢;clear vv;go_enter Tryz.func97,Tryz.ntmps97;go_wp2_with fail;refine (FU.out _ (by exact HO.out) (by exact HR.out)).mono ?_;rintro e w1 ⟨⟨A',m,c',rfl,hi⟩,hb⟩;have HI:=hide hi;have HB1:=hide hb;clear hi hb;go_wp2_with fail;refine (xK _ A' m c' PV (by exact HI.out)).mono ?_;rintro e w2 ⟨rfl,hb2⟩;have HB2:=hide (aa HB1.out hb2);clear hb2;go_wp2;go_ret;exact ⟨rfl,HB2.out⟩
include h hb0 hb1 hr in
theorem JN (lo hi:Int)(h6:W.cell? ⟨gc,6,none⟩=some (.int .i64 lo))(h7:W.cell? ⟨gc,7,none⟩=some (.int .i64 hi))(hp:0<(aF cols names row).length):
  Calls Tryz.prog 99 #[.slice Ar nr cr,.pointer (some ⟨go,0,none⟩),.pointer (some ⟨gc,0,none⟩)] W
   λe w'=>e=.returned (.bool (((aF cols names row).getD 0 zeroV).kind != 0&&(decide (((aF cols names row).getD 0 zeroV).num<lo) || decide (hi<((aF cols names row).getD 0 zeroV).num))))/\Below W.heap.size W w':=by
 have e0:=h.own;have HO:=hide h;have HR:=hide hr;clear h hr;obtain ⟨PV,vv⟩: ∃p,aF cols names row=p:=⟨_,rfl⟩;have FU:=hide λV hv hr=>yB V go gr gc A n c cols A3 n3 c3 names hv hb0 hb1 Ar nr cr row hr;rw[vv]at FU hp⊢;clear vv;obtain ⟨V,PT,rfl⟩: ∃v l,PV=v :: l:=by
  cases PV with
  |nil=>simp at hp
  |cons v l=>exact ⟨v,l,rfl⟩
 obtain ⟨vk,vn,vs⟩:=V;have HP:=hide (show ((⟨vk,vn,vs⟩ :: PT:List Val).getD 0 zeroV)=⟨vk,vn,vs⟩ from rfl);rw[HP.out];clear hp HP;have LC:=lt_of_cell h6;have H6:=hide h6;have H7:=hide h7;clear h6 h7;go_enter Tryz.func99,Tryz.ntmps99;go_wp2_with fail;refine (FU.out _ (by exact HO.out) (by exact HR.out)).mono ?_;rintro e w1 ⟨⟨A',m,c',rfl,hi'⟩,hb⟩;have q6:=bat hb LC H6.out;have q7:=bat hb LC H7.out;have Yz:=lt_of_cell q6;have HB1:=hide hb;have hm:0<m:=by rw[<-hi'.len];simp
 obtain ⟨b,off,x,rfl,hBb,HX,x0,x1,x2,x3⟩:=hi'.val hm;have hx:=HX.out;rw[List.drop_zero]at hx;injection hx with hx1 hx2;subst hx1;have hcap:=hi'.cap;have z0:(0:Int)<(m:Int):=by omega
 have hz1:(0:Int)<=(c':Int):=by omega
 clear hi' hb hx2 HX;simp only[Nat.zero_mul,Nat.add_zero]at x0 x1 x2;obtain ⟨W2,hW2⟩: ∃W2,W2=w1.alloc (.cells #[.int .i64 vk,.int .i64 vn,.string vs] 74):=⟨_,rfl⟩;have y0:W2.cell? ⟨w1.heap.size,0,none⟩=some (.int .i64 vk):=by rw[hW2];simp[go_sem]
 have y1:W2.cell? ⟨w1.heap.size,1,none⟩=some (.int .i64 vn):=by rw[hW2];simp[go_sem]
 have r6:W2.cell? ⟨gc,6,none⟩=some (.int .i64 lo):=by rw[hW2];exact bat ae Yz q6
 have r7:W2.cell? ⟨gc,7,none⟩=some (.int .i64 hi):=by rw[hW2];exact bat ae Yz q7
 have HB2:=hide (show Below W.heap.size W W2 by rw[hW2];exact aa HB1.out ae);by_cases k0:vk=0
 ·subst k0;go_wp2_with fail;rw[<-hW2];go_wp2;all_goals (try (exfalso;go_light;simp_all;done));go_ret;exact ⟨au (by simp),HB2.out⟩
 ·have k1:(vk != 0)=true:=by simpa using k0
  by_cases k2:vn<lo
  ·have k3:decide (vn<lo)=true:=by simpa using k2
   go_wp2_with fail;rw[<-hW2];go_wp2;all_goals (try (exfalso;go_light;simp_all;done));go_ret;exact ⟨au (by rw[k1,k3];rfl),HB2.out⟩
  ·have k3:decide (vn<lo)=false:=by simpa using k2
   go_wp2_with fail;rw[<-hW2];go_wp2;all_goals (try (exfalso;go_light;simp_all;done));go_ret;exact ⟨au (by rw[k1,k3];simp),HB2.out⟩
include h hb0 hb1 hr in
theorem JL (gm b k:Nat)(hm:W.cell? ⟨gm,0,none⟩=some (.map (some b)))(f:ByteArray->Int)(hS:iC Tryz.prog 9 W b k (.int .i64 0) (λs=>.int .i64 (f s))):
  Calls Tryz.prog 100 #[.slice Ar nr cr,.pointer (some ⟨go,0,none⟩),.pointer (some ⟨gm,0,none⟩)] W
   λe w'=>e=.returned (.bool (!lg (aF cols names row)&&f (dC (aF cols names row))==0))/\Below W.heap.size W w':=by
 have e0:=h.own;have l0:=lt_of_cell e0;have lm:=lt_of_cell hm;have HO:=hide h;have HS:=hide hS;have HR:=hide hr;have HM:=hide hm;have HE:=hide e0;have L0:=hide l0;have LM:=hide lm;obtain ⟨T,hT⟩: ∃T,dC (aF cols names row)=T:=⟨_,rfl⟩;have Kh:=hide (jP (aF cols names row));rw[hT]at Kh;have HT:=hide hT;rw[hT];clear hT h hS hr;obtain ⟨PV,vv⟩: ∃p,aF cols names row=p:=⟨_,rfl⟩;have FU:=hide λV hv hr=>yB V go gr gc A n c cols A3 n3 c3 names hv hb0 hb1 Ar nr cr row hr;rw[vv]at HT FU⊢;clear vv;have WF:=hide λV A' m c' hi=>xK V A' m c' PV hi;obtain ⟨N,hN⟩: ∃N,lg PV=N:=⟨_,rfl⟩;rw[hN]at WF⊢;clear hN;cases N
 ·go_enter Tryz.func100,Tryz.ntmps100;go_wp2;have R4:True:=trivial;go_region_held3 (λV=>V.cell? ⟨gm,0,none⟩=some (.map (some b))/\V.cell? ⟨go,0,none⟩=some (.func (.func 93) #[] #[.pointer (some ⟨gr,0,none⟩),.pointer (some ⟨gc,0,none⟩)]))
   (first|exact ⟨bat vZ.out LM.out HM.out,bat vZ.out L0.out HE.out⟩|exact ⟨bat HB3.out LM.out HM.out,bat HB3.out L0.out HE.out⟩|exact ⟨bat HB2.out LM.out HM.out,bat HB2.out L0.out HE.out⟩|exact ⟨bat HB1.out LM.out HM.out,bat HB1.out L0.out HE.out⟩|exact ⟨hm,e0⟩)
   (first
    |(clear R4;go_at_call 93;refine (FU.out _ (by exact HO.out.below (Below.refl _ _).drew) (by exact HR.out.below (Below.refl _ _).drew)).mono ?_;rintro e w1 ⟨⟨A',m,c',rfl,hi⟩,hb⟩;have HI:=hide hi;have HB1:=hide (below_undrew hb);clear hi hb;have MJ:True:=trivial)
    |(clear MJ;go_at_call 98;refine (WF.out _ A' m c' (by exact HI.out)).mono ?_;rintro e w2 ⟨rfl,hb2⟩;have HB2:=hide (aa HB1.out hb2);clear hb2;have SE:True:=trivial)
    |(clear SE;go_at_call 93;refine (FU.out _ (by exact HO.out.below HB2.out) (by exact HR.out.below HB2.out)).mono ?_;rintro e w3 ⟨⟨A5,m5,c5,rfl,hi5⟩,hb3⟩;have Wx:=hide hi5;have HB3:=hide (aa HB2.out hb3);clear hi5 hb3;have mk3:True:=trivial)
    |(clear mk3;go_at_call 96;refine (z8 _ A5 m5 c5 PV (by exact Wx.out)).mono ?_;rintro e w4 ⟨rfl,hb4⟩;rw[HT.out];have vZ:=hide (aa HB3.out hb4);have LK:=(HS.out.below vZ.out).look (V:=w4) Tryz.underlying132 Tryz.underlying9 (λV=>Tryz.zeroValue3 V) Kh.out rfl;clear hb4;have mk4:True:=trivial))
  go_wp2;go_ret;exact ⟨au (by simp),vZ.out⟩
 ·go_enter Tryz.func100,Tryz.ntmps100;go_wp2;have R4:True:=trivial
  first|(go_region_law (first|(clear R4;go_simp;go_at_call 93;refine (FU.out _ (by exact HO.out.below (Below.refl _ _).drew) (by exact HR.out.below (Below.refl _ _).drew)).mono ?_;rintro e w1 ⟨⟨A',m,c',rfl,hi⟩,hb⟩;have HI:=hide hi;have HB1:=hide (below_undrew hb);clear hi hb;have MJ:True:=trivial;go_wp2_with fail)|(clear MJ;go_simp;go_at_call 98;refine (WF.out _ A' m c' (by exact HI.out)).mono ?_;rintro e w2 ⟨rfl,hb2⟩;have HB2:=hide (aa HB1.out hb2);clear hb2;have SE:True:=trivial;go_wp2_with fail)))|fail
  all_goals
   go_wp2;go_ret;exact ⟨au (by simp),HB2.out⟩
end
theorem xC (es:List Node)(cols:List Col)(row:List Val)(zs:List Zone):valid (gp es cols row zs).2=true:=by
 rw[gp];by_cases h1:(bG es cols zs).1=0
 ·rw[if_neg (by omega)];by_cases h2:aC cols row=0
  ·rw[if_neg (by omega)];exact (Gt h2 h1).2.1
  ·rw[if_pos h2];exact lw
 ·rw[if_pos h1];exact lw
theorem Jt (w:World)(x:Chk)(A:Option Addr)(n c:Nat)(A':Option Addr)(n' c':Nat)(aK:Option Addr)(n'' c'':Nat)(hq:In w aK n'' c'' x.cond)(hw:Words w)(A1:Option Addr)(n1 c1:Nat)(cols:List Col)(hc:In w A1 n1 c1 cols)(A3:Option Addr)(n3 c3:Nat)(row:List Val)(hr:In w A3 n3 c3 row)(A2:Option Addr)(n2 c2:Nat)(zs:List Zone)(hz:In w A2 n2 c2 zs):
  Calls Tryz.prog 64 #[.agg (ak x A n c A' n' c' aK n'' c'').toArray,.slice A1 n1 c1,.slice A3 n3 c3,.slice A2 n2 c2] w λe w'=>e=.returned (.bool (oK x.cond cols row zs))/\Below w.heap.size w w':=by
 have HE:=hide λW hq hw hc hr hz=>Lm W aK n'' c'' x.cond hq hw A1 n1 c1 cols hc A3 n3 c3 row hr A2 n2 c2 zs hz;have HV:=hide (iX (xC x.cond cols row zs));have HD:=hide (show oK x.cond cols row zs=((gp x.cond cols row zs).1==0&&truth (gp x.cond cols row zs).2==1) from rfl);obtain ⟨R,hR⟩: ∃R,oK x.cond cols row zs=R:=⟨_,rfl⟩;obtain ⟨E,hE⟩: ∃E,gp x.cond cols row zs=E:=⟨_,rfl⟩;rw[hR]at HD;rw[hE]at HE HV HD;rw[hR];clear hR hE;obtain ⟨ee,vk,vn,vs⟩:=E;simp only[Val.cells]at HE HV HD;simp only[ak];go_enter Tryz.func64,Tryz.ntmps64;have HQ:=hide hq;clear hq;have HW:=hide hw;clear hw;have HC:=hide hc;clear hc;have HR:=hide hr;clear hr;have HZ:=hide hz;clear hz;go_wp2_with fail;obtain ⟨W1,hW1⟩: ∃W,W=w.alloc (.cells #[.string x.name,.string x.table,.int .i64 x.kind,.slice A n c,.string x.other,.slice A' n' c',.int .i64 x.low,.int .i64 x.high,.slice aK n'' c'',.int .i64 x.ln,.int .i64 x.ld,.int .i64 x.mn,.int .i64 x.md,.int .i64 x.policy] 27):=⟨_,rfl⟩;obtain ⟨hbW1,gB,g0,g1,g2,g3,g4,g5,g6,g7,g8,g9,g10,g11,g12,g13⟩:=bM hW1 rfl;rw[<-hW1];clear hW1;have HQ:=hide (HQ.out.below hbW1);have HW:=hide (HW.out.below hbW1);have HC:=hide (HC.out.below hbW1);have HR:=hide (HR.out.below hbW1);have HZ:=hide (HZ.out.below hbW1);have p8:=hide hbW1;clear hbW1;have LR:=lt_of_cell g0;refine (HE.out _ HQ.out HW.out HC.out HR.out HZ.out).mono ?_;rintro e w2 ⟨rfl,hb2⟩;obtain ⟨g0,g1,g2,g3,g4,g5,g6,g7,g8,g9,g10,g11,g12,g13,LR⟩:=dD hb2 LR g0 g1 g2 g3 g4 g5 g6 g7 g8 g9 g10 g11 g12 g13;have uH:=hide (aa p8.out hb2);clear hb2;clear g1 g2 g3 g4 g5 g6 g7 g8 g9 g10 g11 g12 g13;by_cases h0:ee=0
 ·subst h0;go_wp2_with fail;refine (J2 ⟨vk,vn,vs⟩ HV.out _).mono ?_;rintro e w3 ⟨rfl,hb3⟩;have HB3:=hide (aa uH.out (aa ae hb3));obtain ⟨T,hT⟩: ∃T,truth ⟨vk,vn,vs⟩=T:=⟨_,rfl⟩;rw[hT]at HD⊢;clear hT hb3;go_wp2;go_ret;exact ⟨au (by rw[HD.out];simp),HB3.out⟩
 ·have q:(ee==0)=false:=by simpa using h0
  obtain rfl:R=false:=by rw[HD.out,q];rfl
  have HB3:=hide (aa uH.out (ae (o:=.cells #[.int .i64 vk,.int .i64 vn,.string vs] 74)));go_wp2;all_goals (try (exfalso;go_light;simp_all;done));go_ret;exact ⟨rfl,HB3.out⟩
structure ChkAt (W:World) (g:Nat) (x:Chk) (A:Option Addr) (n c:Nat) (A':Option Addr) (n' c':Nat) (aK:Option Addr) (n'' c'':Nat):Prop where
 c0:W.cell? ⟨g,0,none⟩=some (.string x.name)
 c1:W.cell? ⟨g,1,none⟩=some (.string x.table)
 c2:W.cell? ⟨g,2,none⟩=some (.int .i64 x.kind)
 c3:W.cell? ⟨g,3,none⟩=some (.slice A n c)
 c4:W.cell? ⟨g,4,none⟩=some (.string x.other)
 c5:W.cell? ⟨g,5,none⟩=some (.slice A' n' c')
 c6:W.cell? ⟨g,6,none⟩=some (.int .i64 x.low)
 c7:W.cell? ⟨g,7,none⟩=some (.int .i64 x.high)
 c8:W.cell? ⟨g,8,none⟩=some (.slice aK n'' c'')
 c9:W.cell? ⟨g,9,none⟩=some (.int .i64 x.ln)
 c10:W.cell? ⟨g,10,none⟩=some (.int .i64 x.ld)
 c11:W.cell? ⟨g,11,none⟩=some (.int .i64 x.mn)
 c12:W.cell? ⟨g,12,none⟩=some (.int .i64 x.md)
 c13:W.cell? ⟨g,13,none⟩=some (.int .i64 x.policy)
theorem ChkAt.below {W W':World}{g:Nat}{x:Chk}{A:Option Addr}{n c:Nat}{A':Option Addr}{n' c':Nat}{aK:Option Addr}{n'' c'':Nat}(h:ChkAt W g x A n c A' n' c' aK n'' c'')(hb:Below W.heap.size W W'):ChkAt W' g x A n c A' n' c' aK n'' c'':=
 ⟨bat hb (lt_of_cell h.c0) h.c0,bat hb (lt_of_cell h.c1) h.c1,bat hb (lt_of_cell h.c2) h.c2,bat hb (lt_of_cell h.c3) h.c3,bat hb (lt_of_cell h.c4) h.c4,bat hb (lt_of_cell h.c5) h.c5,bat hb (lt_of_cell h.c6) h.c6,bat hb (lt_of_cell h.c7) h.c7,bat hb (lt_of_cell h.c8) h.c8,bat hb (lt_of_cell h.c9) h.c9,bat hb (lt_of_cell h.c10) h.c10,bat hb (lt_of_cell h.c11) h.c11,bat hb (lt_of_cell h.c12) h.c12,bat hb (lt_of_cell h.c13) h.c13⟩
theorem Le (W:World)(gc gr gz:Nat)(x:Chk)(A:Option Addr)(n c:Nat)(A':Option Addr)(n' c':Nat)(aK:Option Addr)(n'' c'':Nat)(hx:ChkAt W gc x A n c A' n' c' aK n'' c'')(A1:Option Addr)(n1 c1:Nat)(cols:List Col)(h1:W.cell? ⟨gr,1,none⟩=some (.slice A1 n1 c1))(A2:Option Addr)(n2 c2:Nat)(zs:List Zone)(hz0:W.cell? ⟨gz,0,none⟩=some (.slice A2 n2 c2))(hq:In W aK n'' c'' x.cond)(hw:Words W)(hc:In W A1 n1 c1 cols)(hz:In W A2 n2 c2 zs)(Ar:Option Addr)(nr cr:Nat)(row:List Val)(hr:In W Ar nr cr row):
  Calls Tryz.prog 101 #[.slice Ar nr cr,.pointer (some ⟨gc,0,none⟩),.pointer (some ⟨gr,0,none⟩),.pointer (some ⟨gz,0,none⟩)] W
   λe w'=>e=.returned (.bool (!oK x.cond cols row zs))/\Below W.heap.size W w':=by
 have HH:=hide (Jt W x A n c A' n' c' aK n'' c'' hq hw A1 n1 c1 cols hc Ar nr cr row hr A2 n2 c2 zs hz);obtain ⟨g0,g1,g2,g3,g4,g5,g6,g7,g8,g9,g10,g11,g12,g13⟩:=hx;clear hq hw hc hz hr;go_enter Tryz.func101,Tryz.ntmps101;go_wp2_with fail;refine HH.out.mono ?_;rintro e w1 ⟨rfl,hb⟩;have HB:=hide hb;clear hb g0 g1 g2 g3 g4 g5 g6 g7 g8 g9 g10 g11 g12 g13;go_wp2;go_ret;exact ⟨rfl,HB.out⟩
theorem MN (W:World)(v:Value):Calls Tryz.prog 102 #[v] W λe w'=>e=.returned (.bool false)/\Below W.heap.size W w':=by
 go_enter Tryz.func102,Tryz.ntmps102;go_wp2;go_ret;exact ⟨rfl,Below.refl _ _⟩
end Go.Proofs.YtggejcekmehocaaGreatDoor
