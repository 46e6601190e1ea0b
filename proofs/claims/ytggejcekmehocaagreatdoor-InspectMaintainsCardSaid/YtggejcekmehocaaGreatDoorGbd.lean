/-
  check.Violations. (Printed by gen_vioW.py.) check.Violations. (Printed by gen_vioW.py.) bag.Count: the count of a row. check.Judge. (Printed by gen_jdg.py.)
-/
import Derived.Test.YtggejcekmehocaaGreatDoorGbb
import Derived.Test.YtggejcekmehocaaGreatDoorGar
import Derived.Test.YtggejcekmehocaaGreatDoorGap
import Derived.Test.YtggejcekmehocaaGreatDoorGad
import Derived.Test.YtggejcekmehocaaGreatDoorGaa
import Derived.Test.YtggejcekmehocaaGreatDoorGah
import Derived.Test.YtggejcekmehocaaGreatDoorGau
namespace Go.Proofs.YtggejcekmehocaaGreatDoor
set_option maxHeartbeats 4000000
set_option maxRecDepth 100000
open Go.RowKit Go.Maps
set_option linter.unusedSimpArgs false
set_option linter.unusedVariables false
theorem OL.ne_new {α:Type}[Rep α]{e:TypeId}{B:Nat}{O:Nat->Prop}{T:List TypeId}{w:World}{v:Value}{xs:List α}(h:OL e B O T w v xs):some w.heap.size≠v.ownBlock:=λq=>by
 have:=(h.ty q.symm).2.lt;omega
theorem nQ (w:World)(x:Chk)(A:Option Addr)(n c:Nat)(hn:In w A n c x.cols)(A':Option Addr)(n' c':Nat)(hn':In w A' n' c' x.ocols)(aK:Option Addr)(n'' c'':Nat)(hq:In w aK n'' c'' x.cond)(hw:Words w)(rn:ByteArray)(A1:Option Addr)(n1 c1:Nat)(cols:List Col)(hc:In w A1 n1 c1 cols)(Ak:Option Addr)(nk ck:Nat)(A3:Option Addr)(n3 c3:Nat)(rows:List Ent)(hr:In w A3 n3 c3 rows)(on:ByteArray)(A2:Option Addr)(n2 c2:Nat)(ocols:List Col)(ho:In w A2 n2 c2 ocols)(Al:Option Addr)(nl cl:Nat)(A4:Option Addr)(n4 c4:Nat)(ag:List Ent)(hor:In w A4 n4 c4 ag)(A5:Option Addr)(n5 c5:Nat)(zs:List Zone)(hz:In w A5 n5 c5 zs)(hb0:n<=4096)(hb1:n'<=4096)(hb2:n1<=4096)(hb3:n2<=4096):
  Calls Tryz.prog 29 #[.agg (ak x A n c A' n' c' aK n'' c'').toArray,.agg #[.string rn,.slice A1 n1 c1,.slice Ak nk ck,.slice A3 n3 c3],.agg #[.string on,.slice A2 n2 c2,.slice Al nl cl,.slice A4 n4 c4],.slice A5 n5 c5] w
   λe w'=>(∃v,e=.returned (.tuple #[v,.int .i64 (gU x cols ocols rows ag zs).1])/\OE w.heap.size w' v (gU x cols ocols rows ag zs).2)/\Below w.heap.size w w':=by
 have HA:=hide λW hn hn' hq hw hc hr ho hor hz=>CB W x A n c hn A' n' c' hn' aK n'' c'' hq hw rn A1 n1 c1 cols hc Ak nk ck A3 n3 c3 rows hr on A2 n2 c2 ocols ho Al nl cl A4 n4 c4 ag hor A5 n5 c5 zs hz hb0 hb1 hb2 hb3;have HB:=hide λW hn hn' hq hw hc hr ho hor hz hE=>Dy W x A n c hn A' n' c' hn' aK n'' c'' hq hw rn A1 n1 c1 cols hc Ak nk ck A3 n3 c3 rows hr on A2 n2 c2 ocols ho Al nl cl A4 n4 c4 ag hor A5 n5 c5 zs hz hb0 hb1 hb2 hb3 hE;have HD:=hide (show gU x cols ocols rows ag zs=if bf x cols ocols rows ag zs≠0 then (bf x cols ocols rows ag zs,[]) else (0,rows.filter λy=>bR x cols ocols rows ag zs y.row) from rfl);have HZ0:=hide (λh=>ed (c:=x) (rc:=cols) (oc:=ocols) (rr:=rows) (orr:=ag) (zs:=zs) h);obtain ⟨R,hR⟩: ∃R,gU x cols ocols rows ag zs=R:=⟨_,rfl⟩;obtain ⟨E,hE⟩: ∃E,bf x cols ocols rows ag zs=E:=⟨_,rfl⟩;obtain ⟨VB,dR⟩: ∃V,bR x cols ocols rows ag zs=V:=⟨_,rfl⟩;rw[hR,hE]at HD;rw[hE]at HA HZ0;rw[dR]at HD HB;simp only[hE]at HB;rw[hR];clear hR hE dR;simp only[ak]at HA HB⊢;go_enter Tryz.func29,Tryz.ntmps29;have HN:=hide hn;clear hn;have eY:=hide hn';clear hn';have HQ:=hide hq;clear hq;have HW:=hide hw;clear hw;have HC:=hide hc;clear hc;have HO:=hide ho;clear ho;have HZ:=hide hz;clear hz;have HR:=hide hr;clear hr;have qf:=hide hor;clear hor;go_wp2_with fail;obtain ⟨W3,hW3,gN,dF,o1⟩:=eu w x A n c A' n' c' aK n'' c'' rn A1 n1 c1 Ak nk ck A3 n3 c3 on A2 n2 c2 Al nl cl A4 n4 c4;rw[<-hW3];clear hW3;have fq:=hide dF;clear dF;obtain ⟨⟨LR,g0,g1,g2,g3,g4,g5,g6,g7,g8,g9,g10,g11,g12,g13⟩,⟨L2,r0,r1,r2,r3⟩,L3,s0,s1,s2,s3⟩:=o1.out _ (Below.refl _ _);go_wp2_with fail;refine (HA.out _ (HN.out.below fq.out) (eY.out.below fq.out) (HQ.out.below fq.out) (HW.out.below fq.out) (HC.out.below fq.out) (HR.out.below fq.out) (HO.out.below fq.out) (qf.out.below fq.out) (HZ.out.below fq.out)).mono ?_;rintro e w3 ⟨rfl,hb3⟩;have kK:=hide hb3;clear hb3;by_cases hE0:E=0;rotate_left
 ·have q0:(E != 0)=true:=by simpa using hE0
  have FX:Hid (R=(E,[])):=hide (by rw[HD.out,if_pos hE0]);obtain rfl:=FX.out;obtain ⟨⟨LR,g0,g1,g2,g3,g4,g5,g6,g7,g8,g9,g10,g11,g12,g13⟩,⟨L2,r0,r1,r2,r3⟩,L3,s0,s1,s2,s3⟩:=o1.out _ kK.out;go_wp2;all_goals (try (exfalso;go_light;simp_all;done));go_ret2;exact ⟨⟨_,rfl,OL.nil (aa fq.out kK.out).size⟩,(aa fq.out kK.out)⟩
 subst hE0;obtain ⟨⟨LR,g0,g1,g2,g3,g4,g5,g6,g7,g8,g9,g10,g11,g12,g13⟩,⟨L2,r0,r1,r2,r3⟩,L3,s0,s1,s2,s3⟩:=o1.out _ kK.out;go_wp2_with fail;have FO:=hide (aa fq.out kK.out);refine (HB.out _ (HN.out.below FO.out) (eY.out.below FO.out) (HQ.out.below FO.out) (HW.out.below FO.out) (HC.out.below FO.out) (HR.out.below FO.out) (HO.out.below FO.out) (qf.out.below FO.out) (HZ.out.below FO.out) (by first|rfl|trivial)).mono ?_;rintro e w5 ⟨⟨fv,rfl,hbad⟩,hb5⟩;have mH:=hide (aa kK.out hb5);clear hb5;have HBAD:=hide hbad;have QK:=hide (tabErr_zero (HZ0.out (by first|rfl|trivial)).2.1);have Ci:=hide (eU QK.out.1 QK.out.2.1);have AJ:n3<=4096:=by have:=Ci.out.1;rw[HR.out.len]at this;exact this
 have HLEN:=hide HR.out.len;have h63:=HR.out.le;clear hbad;obtain ⟨k9,Lb,rfl,hcf,hcall⟩:=HBAD.out;have Ta:=hide hcall;clear hcall HBAD;obtain ⟨W5,rfl⟩: ∃W,W=w5:=⟨_,rfl⟩;have Yq:=hide (aa fq.out mH.out).size;obtain ⟨-,⟨L2,r0,r1,r2,r3⟩, -⟩:=o1.out _ mH.out;go_wp2;go_loopw [12,31] (λo i wr=> ∃(k:Nat) (ys:List Ent),k<=n3/\i=.int .i64 k/\ys=(rows.take k).filter (λy=>VB y.row)/\ys.length<=k/\OE W5.heap.size wr o ys/\Below W5.heap.size W5 wr) (λ_ i _=>n3-(RowKit.intOf i).toNat)
 case atStart=>exact ⟨0,[],Nat.zero_le _,rfl,by simp,by simp,OL.nil (Nat.le_refl _),Below.refl _ _⟩
 case round=>
  obtain ⟨k,ys,hk,rfl,hys,hyl,hol,hb⟩:=hrel;have xR:=hide hys;have oP:=hide hol;clear hys hol;have qU:=hide hb;clear hb;by_cases hlt:k<n3
  ·have Wl:=hide (aa (aa fq.out mH.out) qU.out);obtain ⟨b,off,y,rfl,hBb,HX,Ax,An,Ac,e0,e1,e2,e3⟩:=(HR.out.below Wl.out).ent hlt;have k0:(0:Int)<=(k:Int):=by omega
   have k1:(k:Int)<(n3:Int):=by omega
   have NQ:=hide (QK.out.2.2 y (mem_of_drop HX.out));have HE2:=hide e2;have Sy:=hide qU.out;have HWB:=hide (aa (aa fq.out mH.out) qU.out);clear e2;have Kk:=hide (aa mH.out qU.out);obtain ⟨-,⟨L2,r0,r1,r2,r3⟩, -⟩:=o1.out _ Kk.out;go_wp2_with fail;refine (Ta.out _ (by exact aa qU.out ae) _ _ _ y.row (by exact HE2.out.below ae) NQ.out).mono ?_;rintro e w8 ⟨rfl,RL⟩;have x0:=bat (b:=wr.heap.size) (o:=0) (v:=.slice Ax An Ac) RL (by simp) (by simp[go_sem]);have x1:=bat (b:=wr.heap.size) (o:=1) (v:=.int .i64 y.count) RL (by simp) (by simp[go_sem]);have dZ:=aa ae RL;clear e0 e1 RL;have PZ:=hide dZ;have jv:=hide (aa qU.out dZ);clear dZ;have fw:=hide oP.out.ne_new;have Ze:=hide (HE2.out.below PZ.out);have N7:=hide (oP.out.below PZ.out);have LX:=lt_of_cell x0;have X0:=hide x0;have X1:=hide x1;have jZ:=hide (aa (aa fq.out mH.out) jv.out);have Hy:=hide jv.out;have XT:=hyl;cases hv:VB y.row
   ·have HN:Hid (ys=(rows.take (k+1)).filter (λy=>VB y.row)):=hide (by rw[aV HX.out,List.filter_append,xR.out,List.filter_cons_of_neg (by simp[hv])];simp);have wo:=hide (aa mH.out jv.out);obtain ⟨-,⟨L2,r0,r1,r2,r3⟩, -⟩:=o1.out _ wo.out;go_wp2;go_roundw
    case rel=>exact ⟨k+1,ys,by omega,by go_num,HN.out,by omega,N7.out,Hy.out⟩
    case measure=>simp[RowKit.intOf];omega
   ·have HN:Hid (ys++[y]=(rows.take (k+1)).filter (λy=>VB y.row)):=hide (by rw[aV HX.out,List.filter_append,xR.out,List.filter_cons_of_pos (by simp[hv])];simp);have yf:ys.length+1<=maxLen:=by simp only[maxLen];omega
    have yg:(ys.length+1)*32<=140737488355328:=by omega
    have hrl:An<=1048576:=by have h1:=HC.out.len;rw[<-HE2.out.len,uC NQ.out];omega
    have Qn:=hide (aa mH.out jv.out);obtain ⟨-,⟨L2,r0,r1,r2,r3⟩, -⟩:=o1.out _ Qn.out;go_wp2;go_region_held3 (λV=>V.cell? ⟨wr.heap.size,0,none⟩=some (.slice Ax An Ac)/\V.cell? ⟨wr.heap.size,1,none⟩=some (.int .i64 y.count))
     (first|exact ⟨y0,y1⟩|exact ⟨bat Aj.out LX X0.out,bat Aj.out LX X1.out⟩|exact ⟨x0,x1⟩|go_keep)
     (first
      |(go_at_call 63;refine (wO _ Ax An Ac y.row (by exact Ze.out.below (Below.refl _ _).drew) hrl).mono ?_;rintro e w6 ⟨⟨A6,c6,rfl,hs6⟩,hb6⟩;have Aj:=hide (below_undrew hb6);have ZL:=hide (hs6.mono λk hk=>show BS W5.heap.size (λ_=>False) [74] w6 k from .inr ⟨Nat.le_trans Hy.out.size hk.1,_,by simp,hk.2⟩);have wC:=hide (N7.out.below Aj.out);clear hs6 hb6)
      |(refine vR _ rfl _ _ _ rfl fD (by decide) w6 _ rfl wC.out (by simp[Act.eval,Act.put]) (by simp[Act.eval,Act.put]) ⟨y.row,y.count⟩ ⟨_,_,_,rfl,ZL.out,e3⟩ yf yg ?_;intro v9 w9 kV dZ oU kU;have uG:=hide kV;have y0:=(World.cell?_of_block (a:=⟨wr.heap.size,0,none⟩) (oU.block wr.heap.size (lt_of_cell (bat Aj.out LX X0.out)) fw.out)).trans (bat Aj.out LX X0.out);have y1:=(World.cell?_of_block (a:=⟨wr.heap.size,1,none⟩) (oU.block wr.heap.size (lt_of_cell (bat Aj.out LX X1.out)) fw.out)).trans (bat Aj.out LX X1.out);have tF:=hide (Hy.out.trans ((Aj.out.mono Hy.out.size).trans dZ));clear kV dZ oU kU))
    go_wp2;go_roundw
    case rel=>exact ⟨k+1,ys++[y],by omega,by go_num,HN.out,by simp;omega,uG.out,tF.out⟩
    case measure=>simp[RowKit.intOf];omega
  ·have HT:Hid (ys=rows.filter λy=>VB y.row):=hide (by rw[xR.out,List.take_of_length_le (by rw[HLEN.out];omega)]);have FX:Hid (R=(0,ys)):=hide (by rw[HD.out,HT.out];simp);have N7:=hide oP.out;have jZ:=hide (aa (aa fq.out mH.out) qU.out);obtain rfl:=FX.out;have yF:=hide (aa mH.out qU.out);obtain ⟨-,⟨L2,r0,r1,r2,r3⟩, -⟩:=o1.out _ yF.out;go_wp2;go_ret2;exact ⟨⟨_,rfl,N7.out.rebase Yq.out⟩,jZ.out⟩
open Go.RowKit
theorem wR (w:World)(A:Option Addr)(n c:Nat)(bs:List Ent)(hx:In w A n c bs)(A2:Option Addr)(n2 c2:Nat)(row:List Val)(hy:In w A2 n2 c2 row):
  Calls Tryz.prog 54 #[.slice A n c,.slice A2 n2 c2] w λe w'=>e=.returned (.int .i64 (cntF bs row))/\Below w.heap.size w w':=by
 obtain ⟨R,hR⟩: ∃R,cntF bs row=R:=⟨_,rfl⟩;have HR:=hide hR;rw[hR];clear hR;have HL:=hide hx.len;have h63:=hx.le;go_enter Tryz.func54,Tryz.ntmps54;have HX:=hide hx;clear hx;have HY:=hide hy;clear hy;go_wp2;go_loopw [9] (λi wr=> ∃k:Nat,k<=n/\i=.int .i64 k/\R=cntF (bs.drop k) row/\Below w.heap.size w wr) (λi _=>n-(RowKit.intOf i).toNat)
 case atStart=>exact ⟨0,Nat.zero_le _,rfl,HR.out.symm,Below.refl _ _⟩
 case round=>
  obtain ⟨k,hk,rfl,heq,hb⟩:=hrel;have HE:=hide heq;clear heq;have HX:=hide (HX.out.below hb);have HY:=hide (HY.out.below hb);have p8:=hide hb;clear hb;by_cases hlt:k<n
  ·obtain ⟨b,off,x,rfl,hBb,Yy,Ax,An,Ac,e0,e1,e2,e3⟩:=HX.out.ent hlt;have HI:=hide e2;clear e2;go_wp2_with fail;obtain ⟨W6,Er⟩: ∃W,W=wr.alloc (.cells #[.slice Ax An Ac,.int .i64 x.count] 61):=⟨_,rfl⟩;obtain ⟨wV,QS,x0,x1⟩:=wL Er rfl;rw[<-Er];clear Er;have HY:=hide (HY.out.below wV);have Xj:=hide wV;have fq:=hide (aa p8.out wV);clear wV;have L6:=lt_of_cell x0;have NT:=hide (HI.out.below Xj.out);go_wp2_with fail;refine (mh _ Ax A2 An n2 Ac c2 x.row row (by exact NT.out) HY.out).mono ?_;rintro e w3 ⟨rfl,hb3⟩;obtain ⟨x0,x1,L6⟩:=Uc hb3 L6 x0 x1;have kK:=hide (aa fq.out hb3);clear hb3;obtain ⟨Q,hQ⟩: ∃Q,ax x.row row=Q:=⟨_,rfl⟩;have HQ:=hide hQ;rw[hQ];clear hQ;have Hy:=hide kK.out;have jZ:=hide kK.out;by_cases hq:Q=0
   ·subst hq;obtain rfl:R=x.count:=by rw[HE.out,Yy.out,cntF,if_pos HQ.out]
    go_wp2;all_goals (try (exfalso;go_light;simp_all;done));go_ret;exact ⟨rfl,jZ.out⟩
   ·have q0:(Q==0)=false:=by simpa using hq
    have HN:Hid (R=cntF (bs.drop (k+1)) row):=hide (by rw[HE.out,Yy.out,cntF,if_neg (by rw[HQ.out];exact hq)]);go_wp2;all_goals (try (exfalso;go_light;simp_all;done));go_roundw
    case rel=>exact ⟨k+1,by omega,by go_num,HN.out,Hy.out⟩
    case measure=>simp[RowKit.intOf];omega
  ·obtain rfl:R=0:=by rw[HE.out,aJ HX.out.len (by omega)];rfl
   have jZ:=hide p8.out;go_wp2;go_ret;exact ⟨rfl,jZ.out⟩
structure Ver where
 name:ByteArray
 bad:Bool
 rows:Int
 part:Int
 whole:Int
def Ver.cells (v:Ver):List Value:=[.string v.name,.bool v.bad,.int .i64 v.rows,.int .i64 v.part,.int .i64 v.whole]
structure VerAt (w:World) (g:Nat) (v:Ver):Prop where
 c0:w.cell? ⟨g,0,none⟩=some (.string v.name)
 c1:w.cell? ⟨g,1,none⟩=some (.bool v.bad)
 c2:w.cell? ⟨g,2,none⟩=some (.int .i64 v.rows)
 c3:w.cell? ⟨g,3,none⟩=some (.int .i64 v.part)
 c4:w.cell? ⟨g,4,none⟩=some (.int .i64 v.whole)
 fz: ∀o,w.frozen? ⟨g,o,none⟩=false
theorem VerAt.lt {w:World}{g:Nat}{v:Ver}(h:VerAt w g v):g<w.heap.size:=lt_of_cell h.c0
theorem VerAt.below {w w':World}{g:Nat}{v:Ver}(h:VerAt w g v)(hb:Below w.heap.size w w'):VerAt w' g v:=
 ⟨bat hb h.lt h.c0,bat hb h.lt h.c1,bat hb h.lt h.c2,bat hb h.lt h.c3,bat hb h.lt h.c4,λo=>((ai hb).2 g o h.lt).trans (h.fz o)⟩
theorem zg {w:World}{g:Nat}(h: ∀o,w.frozen? ⟨g,o,none⟩=false)(b o:Nat)(u:Value): ∀o',(w.setCell ⟨b,o,none⟩ u).frozen? ⟨g,o',none⟩=false:=λo'=>by
 rw[World.frozen?_setCell];exact h o'
theorem VerAt.set3 {w:World}{g:Nat}{v:Ver}(h:VerAt w g v)(p:Int):VerAt (w.setCell ⟨g,3,none⟩ (.int .i64 p)) g {v with part:=p}:=
 ⟨af h.c0 (.inr (by omega)),af h.c1 (.inr (by omega)),af h.c2 (.inr (by omega)),dA h.c3,af h.c4 (.inr (by omega)),zg h.fz _ _ _⟩
theorem VerAt.set4 {w:World}{g:Nat}{v:Ver}(h:VerAt w g v)(p:Int):VerAt (w.setCell ⟨g,4,none⟩ (.int .i64 p)) g {v with whole:=p}:=
 ⟨af h.c0 (.inr (by omega)),af h.c1 (.inr (by omega)),af h.c2 (.inr (by omega)),af h.c3 (.inr (by omega)),dA h.c4,zg h.fz _ _ _⟩
theorem ol_inn {α:Type}[Rep α]{e:TypeId}{B:Nat}{O:Nat->Prop}{T:List TypeId}{w:World}{v:Value}{xs:List α}(h:OL e B O T w v xs): ∃A c,v=.slice A xs.length c/\In w A xs.length c xs:=h.inn
end Go.Proofs.YtggejcekmehocaaGreatDoor
