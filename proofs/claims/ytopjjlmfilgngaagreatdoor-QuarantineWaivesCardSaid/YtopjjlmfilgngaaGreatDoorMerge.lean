/-
  warehouseref6.merge.
-/
import Derived.Test.YtopjjlmfilgngaaGreatDoorGad
import Derived.Test.YtopjjlmfilgngaaGreatDoorGae
import Derived.Test.YtopjjlmfilgngaaGreatDoorGaa
namespace Go.Proofs.YtopjjlmfilgngaaGreatDoor
set_option maxHeartbeats 2000000
set_option maxRecDepth 100000
open Go.RowKit
set_option linter.unusedSimpArgs false
set_option linter.unusedVariables false
theorem oM:(Tryz.prog.info? 50).map (λi=>(i.zero,i.size,i.bytes))=some (some (.agg #[.slice none 0 0,.int .i64 0]),2,32):=by kernel_rfl
structure OwnEnts (w w':World) (S:Nat->Prop) (v:Value) (zs:List Ent):Prop where
 own: ∃cs,w'.ownsRow w.heap.size 50 2 v zs.length cs/\Cells w' S cs zs
theorem l7 {A:Option Addr}{n c:Nat}{m:Int}: ∀u∈[Value.slice A n c,Value.int .i64 m],u.oneCell'=true:=by
 intro u hu;simp at hu;rcases hu with rfl|rfl <;> rfl
theorem nL {w:World}{b o:Nat}{v0 v1:Value}(h0:w.cell? ⟨b,o,none⟩=some v0)(h1:w.cell? ⟨b,o+1,none⟩=some v1):Src w 2 (some ⟨b,o,none⟩) 1 [v0,v1]:=
 ⟨rfl,λ_=>⟨b,o,rfl,λj u hu=>by
  match j,hu with
  | 0,hu=>simp at hu;subst hu;exact h0
  | 1,hu=>simp at hu;subst hu;exact h1⟩⟩
theorem mO {w:World}{base:Nat}{e:TypeId}{size:Nat}{v:Value}{n:Nat}{xs:List Value}(h:w.ownsRow base e size v n xs):w.drew.ownsRow base e size v n xs:=h
theorem ve {w w':World}{base:Nat}{e:TypeId}{size:Nat}{v:Value}{n:Nat}{xs:List Value}(h:w.ownsRow base e size v n xs)(hk: ∀g,v.ownBlock=some g->w'.heap[g]?=w.heap[g]?):w'.ownsRow base e size v n xs:=by
 refine ⟨h.1,?_⟩;rcases h.2 with h2|⟨g,cap,cur,rfl,hg,hh,r⟩
 ·exact .inl h2
 ·exact .inr ⟨g,cap,cur,rfl,hg,by rw[hk g rfl];exact hh,r⟩
theorem OwnEnts.any {w w':World}{S:Nat->Prop}{v:Value}{zs:List Ent}(h:OwnEnts w w' S v zs){n:Nat}:OwnEnts w (w'.drewN n) S v zs:=by
 obtain ⟨cs,h1,h2⟩:=h.own;exact ⟨cs,h1,Cells.keep (show Same S w' (w'.drewN n) from λ_ _=>rfl) h2⟩
theorem Sl.tail {α:Type}[Rep α]{w:World}{S:Nat->Prop}{A:Option Addr}{n c k:Nat}{xs:List α}(h:Sl w S A n c xs)(hk:k<=n):
  Sl w S (if c=k then A else A.map (·.add (k*Rep.size α))) (n-k) (c-k) (xs.drop k):=by
 refine ⟨by rw[List.length_drop,h.1],by have:=h.2.1;omega,by have:=h.2.2.1;omega,λhA=>?_,λhn=>?_⟩
 ·by_cases hc:c=k
  ·omega
  ·rw[if_neg hc]at hA;have:=h.2.2.2.1 (by cases A with|none=>rfl|some a=>cases hA);omega
 ·obtain ⟨b,off,e,hb,hi⟩:=h.2.2.2.2 (by omega);have:=h.2.1;rw[if_neg (by omega),e];refine ⟨b,off+k*Rep.size α,by rw[Option.map_some,jw],hb,λi hi'=>?_⟩;rw[List.length_drop]at hi';have:=hi (k+i) (by omega);rw[List.getElem_drop,show off+k*Rep.size α+i*Rep.size α=off+(k+i)*Rep.size α from by rw[Nat.add_mul];omega];exact this
theorem OwnEnts.add {w wr w1:World}{S:Nat->Prop}{v1:Value}{zs:List Ent}{cs:List Value}{x:Ent}{A:Option Addr}{n c:Nat}(hS: ∀k,S k->k<w.heap.size)(hc:Cells wr S cs zs)(hx:Sl w S A n c x.row)(h64:eZ x.count)(hb:Below w.heap.size w wr)(hw:Below w.heap.size wr w1)(hown:w1.ownsRow w.heap.size 50 2 v1 (zs.length+1) (cs++[.slice A n c,.int .i64 x.count])):OwnEnts w w1 S v1 (zs++[x]):=by
 have h1:Same S wr w1:=(Same.below hw).sub hS;have h2:Same S w w1:=(Same.below (hb.trans hw)).sub hS;have h3:Rep.rd w1 S [.slice A n c,.int .i64 x.count] x:=⟨A,n,c,rfl,hx.keep h2,h64⟩;exact ⟨_,by rw[List.length_append];exact hown,Cells.app (Cells.one h3) (hc.keep h1)⟩
theorem uD.tail {C:Int}{us l:List Ent}{x:Ent}(h:uD C us)(e:us.drop 0=x :: l):uD C l/\(-C<=x.count/\x.count<=C):=by
 rw[List.drop_zero]at e;subst e;exact ⟨λy hy=>h y (List.mem_cons_of_mem _ hy),h x (List.mem_cons_self ..)⟩
theorem KG (w:World)(A A':Option Addr)(n n' c c':Nat)(xs ys:List Ent)(hx:In w A n c xs)(hy:In w A' n' c' ys)(hn:n+n'<=1048576)(C D:Int)(hC0:0<=C)(vN:C<=1152921504606846976)(hD0:0<=D)(hD1:D<=1152921504606846976)(hbx:uD C xs)(hby:uD D ys):
  Calls Tryz.prog 47 #[.slice A n c,.slice A' n' c'] w
   λe w'=>(∃v,e=.returned v/\OwnEnts w w' (λk=>k<w.heap.size) v (bW xs ys))/\Below w.heap.size w w':=by
 obtain ⟨i0,hi,hz0,hz1,hz2⟩:=info_parts oM;have HX0:=hide hx;have HY0:=hide hy;go_enter Tryz.func47,Tryz.ntmps47;go_wp2;go_loopw [0,1,5] (λa b o wr=> ∃(B B':Option Addr) (m m' d d':Nat) (us vs zs:List Ent),a=.slice B m d/\b=.slice B' m' d'/\In w B m d us/\In w B' m' d' vs/\m+m'+zs.length<=n+n'/\uD C us/\uD D vs/\
   bW xs ys=zs++bW us vs/\OwnEnts w wr (λk=>k<w.heap.size) o zs/\Below w.heap.size w wr)
  (λa b _ _=>Iw a+Iw b)
 case atStart=>exact ⟨A,A',n,n',c,c',xs,ys,[],rfl,rfl,hx,hy,by simp,hbx,hby,rfl,⟨[],World.ownsRow_nil _ _ _ _,rfl⟩,Below.refl _ _⟩
 case round=>
  obtain ⟨B,B',m,m',d,d',us,vs,zs,rfl,rfl,QV,hvs,hlen,hb1,hb2,heq,hown,hb⟩:=hrel;have HE:=hide heq;have HO:=hide hown;clear heq hown;by_cases hm:0<m
  ·by_cases hm':0<m'
   ·obtain ⟨bl,off,x,rfl,hB,HX,Ax,An,Ac,e0,e1,e2,e3⟩:=QV.ent hm;simp only[Nat.zero_mul,Nat.add_zero]at e0 e1;replace e0:=ah hb hB e0;replace e1:=ah hb hB e1;have hBr:=Nat.lt_of_lt_of_le hB hb.size;have m0e:(0:Int)<(m:Int):=by omega
    have m1e:(1:Int)<=(m:Int):=by omega
    have mde:(m:Int)<=(d:Int):=by have:=QV.cap;omega
    have mze:((m:Int)==0)=false:=by simp;omega
    obtain ⟨bk,of,y,rfl,hB',HY,Yx,Yn,Yc,f0,f1,f2,f3⟩:=hvs.ent hm';simp only[Nat.zero_mul,Nat.add_zero]at f0 f1;replace f0:=ah hb hB' f0;replace f1:=ah hb hB' f1;have QP:=Nat.lt_of_lt_of_le hB' hb.size;have m0f:(0:Int)<(m':Int):=by omega
    have m1f:(1:Int)<=(m':Int):=by omega
    have mdf:(m':Int)<=(d':Int):=by have:=hvs.cap;omega
    have mzf:((m':Int)==0)=false:=by simp;omega
    have Ur:=hide (show us=x :: us.drop 1 by simpa using HX.out);have Ut:=hide (show vs=y :: vs.drop 1 by simpa using HY.out);have htl:=hide (Sl.tail QV (k:=1) (by omega));have hbt:=hide (uD.tail hb1 HX.out);have htl':=hide (Sl.tail hvs (k:=1) (by omega));have hbt':=hide (uD.tail hb2 HY.out);have HM:=hide (nG x y (us.drop 1) (vs.drop 1));have Wx:=In.below e2 hb;have Wy:=In.below f2 hb;go_wp2_with fail;go_region_held3 (λw'=>w'.cell? ⟨bl,off,none⟩=some (.slice Ax An Ac)/\w'.cell? ⟨bk,of,none⟩=some (.slice Yx Yn Yc)) (first|exact ⟨e0,f0⟩|(have hq:=aj hb2';exact ⟨ah hq hBr e0,ah hq QP f0⟩)) (first|(go_at_call 64;refine (lS _ Ax Yx An Yn Ac Yc x.row y.row (by exact Wx) (by exact Wy)).mono ?_;rintro e w2 ⟨rfl,hb2'⟩));have hbw:=aj hb2';have Hr:=aa hb hbw;replace e0:=ah hbw hBr e0;replace e1:=ah hbw hBr e1;replace f0:=ah hbw QP f0;replace f1:=ah hbw QP f1;obtain ⟨cs,hown,hcells0⟩:=HO.out.own;have hcells:=hcells0.keep ((Same.below hbw).sub (λk hk=>Nat.lt_of_lt_of_le hk hb.size));have HW:Hid (w2.ownsRow w.heap.size 50 2 u5 zs.length cs):=hide (ve hown (λg hg=>hbw.block g (hown.lt g hg).2));have HR:=hide (λg (h:u5.ownBlock=some g)=>(hown.lt g h).1);have hsz:=Hr.size;clear hown hcells0 hb2' hbw Wx Wy;obtain hc|hc|hc:aA x.row y.row<0\/0<aA x.row y.row\/aA x.row y.row=0:=by omega
    ·have HQ:Hid (bW us vs=x :: bW (us.drop 1) vs):=hide ((congr (congrArg bW Ur.out) Ut.out).trans (HM.out.trans (by rw[if_pos hc,<-Ut.out])));go_wp2_with fail;go_region_held3 (λw'=>w'.cell? ⟨bl,off,none⟩=some (.slice Ax An Ac)/\w'.cell? ⟨bl,off+1,none⟩=some (.int .i64 x.count)) (first|exact ⟨e0,e1⟩|(have hbx:=(((Below.refl w.heap.size w2).alloc hsz _).drew).grown hg1 (by simp;omega) HR.out;exact ⟨(hbx.cell (p:=⟨bl,off,none⟩) hB).trans e0,(hbx.cell (p:=⟨bl,off+1,none⟩) hB).trans e1⟩)|go_keep) (first|(refine dB _ rfl (.tmp 54) (.tmp 58) 27 rfl w.heap.size 50 i0 _ 2 32 Tryz.underlying27 hi hz0 hz1 hz2 rfl (by decide) u5 zs.length cs (by simp[Act.eval,Act.put]) (by first|exact mO (HW.out.alloc _)|exact HW.out.alloc _) (some ⟨w2.heap.size,0,none⟩) 1 1 [.slice Ax An Ac,.int .i64 x.count] (by simp[Act.eval,Act.put]) (by intro h;cases h) (by exact nL (by simp[go_sem]) (by simp[go_sem])) l7 (by simp only[maxLen];omega) (by omega) (by simp;omega) ?_;intro v1 w1 hown1 hg1 qP));have hw1:=(((Below.refl w.heap.size w2).alloc hsz _).drew).grown hg1 (by simp;omega) HR.out;have hown2:=hide (OwnEnts.add (x:=x) (λ_ h=>h) hcells e2 e3 Hr hw1 hown1);have hbb:=Hr.trans hw1;clear hown1 hg1 qP hw1 hcells e0 e1 f0 f1;go_wp2;all_goals (try (exfalso;go_light;simp_all;done));go_roundw
     case rel=>
      have QR:=HQ.out;refine ⟨_,_,m-1,m',d-1,d',us.drop 1,vs,zs++[x],by simp[Rep.size,jw],rfl,htl.out,hvs,?_,by simpa using hbt.out.1,hb2,?_,hown2.out,hbb⟩
      ·simp;omega
      ·rw[HE.out,QR];simp
     case measure=>simp[Iw];omega
    ·have HQ:Hid (bW us vs=y :: bW us (vs.drop 1)):=hide ((congr (congrArg bW Ur.out) Ut.out).trans (HM.out.trans (by rw[if_neg (by omega),if_pos hc,<-Ur.out])));go_wp2_with fail;go_region_held3 (λw'=>w'.cell? ⟨bk,of,none⟩=some (.slice Yx Yn Yc)/\w'.cell? ⟨bk,of+1,none⟩=some (.int .i64 y.count)) (first|exact ⟨f0,f1⟩|(have hbx:=(((Below.refl w.heap.size w2).alloc hsz _).drew).grown hg1 (by simp;omega) HR.out;exact ⟨(hbx.cell (p:=⟨bk,of,none⟩) hB').trans f0,(hbx.cell (p:=⟨bk,of+1,none⟩) hB').trans f1⟩)|go_keep) (first|(refine dB _ rfl (.tmp 65) (.tmp 69) 27 rfl w.heap.size 50 i0 _ 2 32 Tryz.underlying27 hi hz0 hz1 hz2 rfl (by decide) u5 zs.length cs (by simp[Act.eval,Act.put]) (by first|exact mO (HW.out.alloc _)|exact HW.out.alloc _) (some ⟨w2.heap.size,0,none⟩) 1 1 [.slice Yx Yn Yc,.int .i64 y.count] (by simp[Act.eval,Act.put]) (by intro h;cases h) (by exact nL (by simp[go_sem]) (by simp[go_sem])) l7 (by simp only[maxLen];omega) (by omega) (by simp;omega) ?_;intro v1 w1 hown1 hg1 qP));have hw1:=(((Below.refl w.heap.size w2).alloc hsz _).drew).grown hg1 (by simp;omega) HR.out;have hown2:=hide (OwnEnts.add (x:=y) (λ_ h=>h) hcells f2 f3 Hr hw1 hown1);have hbb:=Hr.trans hw1;clear hown1 hg1 qP hw1 hcells e0 e1 f0 f1;go_wp2;all_goals (try (exfalso;go_light;simp_all;done));go_roundw
     case rel=>
      have QR:=HQ.out;refine ⟨_,_,m,m'-1,d,d'-1,us,vs.drop 1,zs++[y],rfl,by simp[Rep.size,jw],QV,htl'.out,?_,hb1,by simpa using hbt'.out.1,?_,hown2.out,hbb⟩
      ·simp;omega
      ·rw[HE.out,QR];simp
     case measure=>simp[Iw];omega
    ·rw[hc];have HQ:Hid (bW us vs=⟨x.row,x.count+y.count⟩ :: bW (us.drop 1) (vs.drop 1)):=hide ((congr (congrArg bW Ur.out) Ut.out).trans (HM.out.trans (by rw[if_neg (by omega),if_neg (by omega)])));have hx64:=hbt.out.2;have hy64:=hbt'.out.2;have hsum:IntKind.i64.wrap (x.count+y.count)=x.count+y.count:=IntWalk.i64_in _ (by omega);have h64:eZ (x.count+y.count):=⟨by omega,by omega⟩;go_wp2_with fail;go_region_held3 (λw'=>w'.cell? ⟨bl,off,none⟩=some (.slice Ax An Ac)/\w'.cell? ⟨bl,off+1,none⟩=some (.int .i64 x.count)/\w'.cell? ⟨bk,of+1,none⟩=some (.int .i64 y.count)) (first|exact ⟨e0,e1,f1⟩|(have hbx:=(((Below.refl w.heap.size w2).alloc hsz _).drew).grown hg1 (by simp;omega) HR.out;exact ⟨(hbx.cell (p:=⟨bl,off,none⟩) hB).trans e0,(hbx.cell (p:=⟨bl,off+1,none⟩) hB).trans e1,(hbx.cell (p:=⟨bk,of+1,none⟩) hB').trans f1⟩)|go_keep) (first|(refine dB _ rfl (.tmp 30) (.tmp 45) 27 rfl w.heap.size 50 i0 _ 2 32 Tryz.underlying27 hi hz0 hz1 hz2 rfl (by decide) u5 zs.length cs (by simp[Act.eval,Act.put]) (by first|exact mO (HW.out.alloc _)|exact HW.out.alloc _) (some ⟨w2.heap.size,0,none⟩) 1 1 [.slice Ax An Ac,.int .i64 (x.count+y.count)] (by simp[Act.eval,Act.put]) (by intro h;cases h) (by exact nL (by simp[go_sem]) (by simp[go_sem])) l7 (by simp only[maxLen];omega) (by omega) (by simp;omega) ?_;intro v1 w1 hown1 hg1 qP));have hw1:=(((Below.refl w.heap.size w2).alloc hsz _).drew).grown hg1 (by simp;omega) HR.out;have hown2:=hide (OwnEnts.add (x:=⟨x.row,x.count+y.count⟩) (λ_ h=>h) hcells e2 h64 Hr hw1 hown1);have hbb:=Hr.trans hw1;clear hown1 hg1 qP hw1 hcells e0 e1 f0 f1 hsum hx64 hy64;go_wp2;go_quiet (fail);go_wp2;all_goals (try (exfalso;go_light;simp_all;done));go_roundw
     case rel=>
      have QR:=HQ.out;refine ⟨_,_,m-1,m'-1,d-1,d'-1,us.drop 1,vs.drop 1,zs++[⟨x.row,x.count+y.count⟩],by simp[Rep.size,jw],by simp[Rep.size,jw],htl.out,htl'.out,?_,by simpa using hbt.out.1,by simpa using hbt'.out.1,?_,OwnEnts.any hown2.out,below_drewN hbb _⟩
      ·simp;omega
      ·rw[HE.out,QR];simp
     case measure=>simp[Iw];omega
   ·have hm0:m'=0:=by omega
    subst hm0;have hv0:vs=[]:=List.eq_nil_of_length_eq_zero hvs.len;obtain ⟨bl,off,x,rfl,hB,HX,Ax,An,Ac,e0,e1,e2,e3⟩:=QV.ent hm;simp only[Nat.zero_mul,Nat.add_zero]at e0 e1;replace e0:=ah hb hB e0;replace e1:=ah hb hB e1;have hBr:=Nat.lt_of_lt_of_le hB hb.size;have m0e:(0:Int)<(m:Int):=by omega
    have m1e:(1:Int)<=(m:Int):=by omega
    have mde:(m:Int)<=(d:Int):=by have:=QV.cap;omega
    have mze:((m:Int)==0)=false:=by simp;omega
    have Ur:=hide (show us=x :: us.drop 1 by simpa using HX.out);have htl:=hide (Sl.tail QV (k:=1) (by omega));have hbt:=hide (uD.tail hb1 HX.out);have HQ:Hid (bW us vs=x :: bW (us.drop 1) vs):=hide (by rw[hv0];exact (congrArg (λl=>bW l []) Ur.out).trans (nH _ _));clear hv0;have hsz:=hb.size;obtain ⟨cs,hown,hcells⟩:=HO.out.own;have HW:=hide hown;have HR:=hide (λg (h:u5.ownBlock=some g)=>(hown.lt g h).1);clear hown;go_wp2_with fail;go_region_held3 (λw'=>w'.cell? ⟨bl,off,none⟩=some (.slice Ax An Ac)/\w'.cell? ⟨bl,off+1,none⟩=some (.int .i64 x.count)) (first|exact ⟨e0,e1⟩|(have hbx:=(((Below.refl w.heap.size wr).alloc hsz _).drew).grown hg1 (by simp;omega) HR.out;exact ⟨(hbx.cell (p:=⟨bl,off,none⟩) hB).trans e0,(hbx.cell (p:=⟨bl,off+1,none⟩) hB).trans e1⟩)|go_keep) (first|(refine dB _ rfl (.tmp 54) (.tmp 58) 27 rfl w.heap.size 50 i0 _ 2 32 Tryz.underlying27 hi hz0 hz1 hz2 rfl (by decide) u5 zs.length cs (by simp[Act.eval,Act.put]) (by first|exact mO (HW.out.alloc _)|exact HW.out.alloc _) (some ⟨wr.heap.size,0,none⟩) 1 1 [.slice Ax An Ac,.int .i64 x.count] (by simp[Act.eval,Act.put]) (by intro h;cases h) (by exact nL (by simp[go_sem]) (by simp[go_sem])) l7 (by simp only[maxLen];omega) (by omega) (by simp;omega) ?_;intro v1 w1 hown1 hg1 qP));have hw1:=(((Below.refl w.heap.size wr).alloc hsz _).drew).grown hg1 (by simp;omega) HR.out;have hown2:=hide (OwnEnts.add (x:=x) (λ_ h=>h) hcells e2 e3 hb hw1 hown1);have hbb:=hb.trans hw1;clear hown1 hg1 qP hw1 hcells e0 e1;go_wp2;all_goals (try (exfalso;go_light;simp_all;done));go_roundw
    case rel=>
     have QR:=HQ.out;refine ⟨_,_,m-1,0,d-1,d',us.drop 1,vs,zs++[x],by simp[Rep.size,jw],rfl,htl.out,hvs,?_,by simpa using hbt.out.1,hb2,?_,hown2.out,hbb⟩
     ·simp;omega
     ·rw[HE.out,QR];simp
    case measure=>simp[Iw];omega
  ·have hm0:m=0:=by omega
   subst hm0;have hu0:us=[]:=List.eq_nil_of_length_eq_zero QV.len;by_cases hm':0<m'
   ·obtain ⟨bk,of,y,rfl,hB',HY,Yx,Yn,Yc,f0,f1,f2,f3⟩:=hvs.ent hm';simp only[Nat.zero_mul,Nat.add_zero]at f0 f1;replace f0:=ah hb hB' f0;replace f1:=ah hb hB' f1;have QP:=Nat.lt_of_lt_of_le hB' hb.size;have m0f:(0:Int)<(m':Int):=by omega
    have m1f:(1:Int)<=(m':Int):=by omega
    have mdf:(m':Int)<=(d':Int):=by have:=hvs.cap;omega
    have mzf:((m':Int)==0)=false:=by simp;omega
    have Ut:=hide (show vs=y :: vs.drop 1 by simpa using HY.out);have htl':=hide (Sl.tail hvs (k:=1) (by omega));have hbt':=hide (uD.tail hb2 HY.out);have HQ:Hid (bW us vs=y :: bW us (vs.drop 1)):=hide (by rw[hu0];exact (congrArg (λl=>bW [] l) Ut.out).trans (l6 _ _));clear hu0;have hsz:=hb.size;obtain ⟨cs,hown,hcells⟩:=HO.out.own;have HW:=hide hown;have HR:=hide (λg (h:u5.ownBlock=some g)=>(hown.lt g h).1);clear hown;go_wp2_with fail;go_region_held3 (λw'=>w'.cell? ⟨bk,of,none⟩=some (.slice Yx Yn Yc)/\w'.cell? ⟨bk,of+1,none⟩=some (.int .i64 y.count)) (first|exact ⟨f0,f1⟩|(have hbx:=(((Below.refl w.heap.size wr).alloc hsz _).drew).grown hg1 (by simp;omega) HR.out;exact ⟨(hbx.cell (p:=⟨bk,of,none⟩) hB').trans f0,(hbx.cell (p:=⟨bk,of+1,none⟩) hB').trans f1⟩)|go_keep) (first|(refine dB _ rfl (.tmp 65) (.tmp 69) 27 rfl w.heap.size 50 i0 _ 2 32 Tryz.underlying27 hi hz0 hz1 hz2 rfl (by decide) u5 zs.length cs (by simp[Act.eval,Act.put]) (by first|exact mO (HW.out.alloc _)|exact HW.out.alloc _) (some ⟨wr.heap.size,0,none⟩) 1 1 [.slice Yx Yn Yc,.int .i64 y.count] (by simp[Act.eval,Act.put]) (by intro h;cases h) (by exact nL (by simp[go_sem]) (by simp[go_sem])) l7 (by simp only[maxLen];omega) (by omega) (by simp;omega) ?_;intro v1 w1 hown1 hg1 qP));have hw1:=(((Below.refl w.heap.size wr).alloc hsz _).drew).grown hg1 (by simp;omega) HR.out;have hown2:=hide (OwnEnts.add (x:=y) (λ_ h=>h) hcells f2 f3 hb hw1 hown1);have hbb:=hb.trans hw1;clear hown1 hg1 qP hw1 hcells f0 f1;go_wp2;all_goals (try (exfalso;go_light;simp_all;done));go_roundw
    case rel=>
     have QR:=HQ.out;refine ⟨_,_,0,m'-1,d,d'-1,us,vs.drop 1,zs++[y],rfl,by simp[Rep.size,jw],QV,htl'.out,?_,hb1,by simpa using hbt'.out.1,?_,hown2.out,hbb⟩
     ·simp;omega
     ·rw[HE.out,QR];simp
    case measure=>simp[Iw];omega
   ·have hm0:m'=0:=by omega
    subst hm0;have hv0:vs=[]:=List.eq_nil_of_length_eq_zero hvs.len;have HZ:Hid (bW xs ys=zs):=hide (by rw[HE.out,hu0,hv0,ui,List.append_nil]);clear hu0 hv0;go_wp2;go_ret;exact ⟨⟨_,rfl,by rw[HZ.out];exact HO.out⟩,hb⟩
end Go.Proofs.YtopjjlmfilgngaaGreatDoor
