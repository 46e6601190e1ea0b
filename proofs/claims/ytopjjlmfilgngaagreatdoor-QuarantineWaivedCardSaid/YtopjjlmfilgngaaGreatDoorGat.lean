/-
  check.Violations. (Printed by gen_vioW.py.) check.Violations. (Printed by gen_vioW.py.) check.Judge. (Printed by gen_jdg.py.)
-/
import Derived.Test.YtopjjlmfilgngaaGreatDoorViolP
import Derived.Test.YtopjjlmfilgngaaGreatDoorNorm
import Derived.Test.YtopjjlmfilgngaaGreatDoorGai
import Derived.Test.YtopjjlmfilgngaaGreatDoorViol
import Derived.Test.YtopjjlmfilgngaaGreatDoorGaj
import Derived.Test.YtopjjlmfilgngaaGreatDoorGap
namespace Go.Proofs.YtopjjlmfilgngaaGreatDoor
set_option maxHeartbeats 4000000
set_option maxRecDepth 100000
open Go.RowKit Go.Maps
set_option linter.unusedSimpArgs false
set_option linter.unusedVariables false
theorem OL.ne_new {α:Type}[Rep α]{e:TypeId}{B:Nat}{O:Nat->Prop}{T:List TypeId}{w:World}{v:Value}{xs:List α}(h:OL e B O T w v xs):some w.heap.size≠v.ownBlock:=λq=>by
 have:=(h.ty q.symm).2.lt;omega
theorem ru (w:World)(x:Chk)(A:Option Addr)(n c:Nat)(hn:In w A n c x.cols)(A':Option Addr)(n' c':Nat)(hn':In w A' n' c' x.ocols)(bN:Option Addr)(n'' c'':Nat)(hq:In w bN n'' c'' x.cond)(hw:Words w)(rn:ByteArray)(A1:Option Addr)(n1 c1:Nat)(cols:List Col)(hc:In w A1 n1 c1 cols)(Ak:Option Addr)(nk ck:Nat)(A3:Option Addr)(n3 c3:Nat)(rows:List Ent)(hr:In w A3 n3 c3 rows)(on:ByteArray)(A2:Option Addr)(n2 c2:Nat)(ocols:List Col)(ho:In w A2 n2 c2 ocols)(Al:Option Addr)(nl cl:Nat)(A4:Option Addr)(n4 c4:Nat)(aG:List Ent)(hor:In w A4 n4 c4 aG)(A5:Option Addr)(n5 c5:Nat)(zs:List Zone)(hz:In w A5 n5 c5 zs)(hb0:n<=4096)(hb1:n'<=4096)(hb2:n1<=4096)(hb3:n2<=4096):
  Calls Tryz.prog 59 #[.agg (aL x A n c A' n' c' bN n'' c'').toArray,.agg #[.string rn,.slice A1 n1 c1,.slice Ak nk ck,.slice A3 n3 c3],.agg #[.string on,.slice A2 n2 c2,.slice Al nl cl,.slice A4 n4 c4],.slice A5 n5 c5] w
   λe w'=>(∃v,e=.returned (.tuple #[v,.int .i64 (rf x cols ocols rows aG zs).1])/\OE w.heap.size w' v (rf x cols ocols rows aG zs).2)/\Below w.heap.size w w':=by
 have HA:=hide λW hn hn' hq hw hc hr ho hor hz=>ui W x A n c hn A' n' c' hn' bN n'' c'' hq hw rn A1 n1 c1 cols hc Ak nk ck A3 n3 c3 rows hr on A2 n2 c2 ocols ho Al nl cl A4 n4 c4 aG hor A5 n5 c5 zs hz hb0 hb1 hb2 hb3;have HB:=hide λW hn hn' hq hw hc hr ho hor hz hE=>uN W x A n c hn A' n' c' hn' bN n'' c'' hq hw rn A1 n1 c1 cols hc Ak nk ck A3 n3 c3 rows hr on A2 n2 c2 ocols ho Al nl cl A4 n4 c4 aG hor A5 n5 c5 zs hz hb0 hb1 hb2 hb3 hE;have HD:=hide (show rf x cols ocols rows aG zs=if ed x cols ocols rows aG zs≠0 then (ed x cols ocols rows aG zs,[]) else (0,rows.filter λy=>dn x cols ocols rows aG zs y.row) from rfl);have HZ0:=hide (λh=>il (c:=x) (rc:=cols) (oc:=ocols) (rr:=rows) (orr:=aG) (zs:=zs) h);obtain ⟨R,hR⟩: ∃R,rf x cols ocols rows aG zs=R:=⟨_,rfl⟩;obtain ⟨E,hE⟩: ∃E,ed x cols ocols rows aG zs=E:=⟨_,rfl⟩;obtain ⟨VB,rE⟩: ∃V,dn x cols ocols rows aG zs=V:=⟨_,rfl⟩;rw[hR,hE]at HD;rw[hE]at HA HZ0;rw[rE]at HD HB;simp only[hE]at HB;rw[hR];clear hR hE rE;simp only[aL]at HA HB⊢;go_enter Tryz.func59,Tryz.ntmps59;have HN:=hide hn;clear hn;have fM:=hide hn';clear hn';have HQ:=hide hq;clear hq;have HW:=hide hw;clear hw;have HC:=hide hc;clear hc;have HO:=hide ho;clear ho;have HZ:=hide hz;clear hz;have HR:=hide hr;clear hr;have uT:=hide hor;clear hor;go_wp2_with fail;obtain ⟨W3,hW3,jJ,iB,o1⟩:=iY w x A n c A' n' c' bN n'' c'' rn A1 n1 c1 Ak nk ck A3 n3 c3 on A2 n2 c2 Al nl cl A4 n4 c4;rw[<-hW3];clear hW3;have jg:=hide iB;clear iB;obtain ⟨⟨LR,g0,g1,g2,g3,g4,g5,g6,g7,g8,g9,g10,g11,g12,g13⟩,⟨L2,r0,r1,r2,r3⟩,L3,s0,s1,s2,s3⟩:=o1.out _ (Below.refl _ _);go_wp2_with fail;refine (HA.out _ (HN.out.below jg.out) (fM.out.below jg.out) (HQ.out.below jg.out) (HW.out.below jg.out) (HC.out.below jg.out) (HR.out.below jg.out) (HO.out.below jg.out) (uT.out.below jg.out) (HZ.out.below jg.out)).mono ?_;rintro e w3 ⟨rfl,hb3⟩;have xg:=hide hb3;clear hb3;by_cases hE0:E=0;rotate_left
 ·have q0:(E != 0)=true:=by simpa using hE0
  have KG:Hid (R=(E,[])):=hide (by rw[HD.out,if_pos hE0]);obtain rfl:=KG.out;obtain ⟨⟨LR,g0,g1,g2,g3,g4,g5,g6,g7,g8,g9,g10,g11,g12,g13⟩,⟨L2,r0,r1,r2,r3⟩,L3,s0,s1,s2,s3⟩:=o1.out _ xg.out;go_wp2;all_goals (try (exfalso;go_light;simp_all;done));go_ret2;exact ⟨⟨_,rfl,OL.nil (aa jg.out xg.out).size⟩,(aa jg.out xg.out)⟩
 subst hE0;obtain ⟨⟨LR,g0,g1,g2,g3,g4,g5,g6,g7,g8,g9,g10,g11,g12,g13⟩,⟨L2,r0,r1,r2,r3⟩,L3,s0,s1,s2,s3⟩:=o1.out _ xg.out;go_wp2_with fail;have AJ:=hide (aa jg.out xg.out);refine (HB.out _ (HN.out.below AJ.out) (fM.out.below AJ.out) (HQ.out.below AJ.out) (HW.out.below AJ.out) (HC.out.below AJ.out) (HR.out.below AJ.out) (HO.out.below AJ.out) (uT.out.below AJ.out) (HZ.out.below AJ.out) (by first|rfl|trivial)).mono ?_;rintro e w5 ⟨⟨fv,rfl,hbad⟩,hb5⟩;have kw:=hide (aa xg.out hb5);clear hb5;have HBAD:=hide hbad;have KQ:=hide (bB (HZ0.out (by first|rfl|trivial)).2.1);have KH:=hide (eB KQ.out.1 KQ.out.2.1);have Pb:n3<=4096:=by have:=KH.out.1;rw[HR.out.len]at this;exact this
 have HLEN:=hide HR.out.len;have h63:=HR.out.le;clear hbad;obtain ⟨k9,Bi,rfl,hcf,hcall⟩:=HBAD.out;have GZ:=hide hcall;clear hcall HBAD;obtain ⟨W5,rfl⟩: ∃W,W=w5:=⟨_,rfl⟩;have Kz:=hide (aa jg.out kw.out).size;obtain ⟨-,⟨L2,r0,r1,r2,r3⟩, -⟩:=o1.out _ kw.out;go_wp2;go_loopw [12,31] (λo i wr=> ∃(k:Nat) (ys:List Ent),k<=n3/\i=.int .i64 k/\ys=(rows.take k).filter (λy=>VB y.row)/\ys.length<=k/\OE W5.heap.size wr o ys/\Below W5.heap.size W5 wr) (λ_ i _=>n3-(RowKit.intOf i).toNat)
 case atStart=>exact ⟨0,[],Nat.zero_le _,rfl,by simp,by simp,OL.nil (Nat.le_refl _),Below.refl _ _⟩
 case round=>
  obtain ⟨k,ys,hk,rfl,hys,hyl,hol,hb⟩:=hrel;have AO:=hide hys;have yu:=hide hol;clear hys hol;have rD:=hide hb;clear hb;by_cases hlt:k<n3
  ·have GU:=hide (aa (aa jg.out kw.out) rD.out);obtain ⟨b,off,y,rfl,hBb,HX,Ax,An,Ac,e0,e1,e2,e3⟩:=(HR.out.below GU.out).ent hlt;have k0:(0:Int)<=(k:Int):=by omega
   have k1:(k:Int)<(n3:Int):=by omega
   have G9:=hide (KQ.out.2.2 y (aW HX.out));have HE2:=hide e2;have KU:=hide rD.out;have PH:=hide (aa (aa jg.out kw.out) rD.out);clear e2;have Dk:=hide (aa kw.out rD.out);obtain ⟨-,⟨L2,r0,r1,r2,r3⟩, -⟩:=o1.out _ Dk.out;go_wp2_with fail;refine (GZ.out _ (by exact aa rD.out ae) _ _ _ y.row (by exact HE2.out.below ae) G9.out).mono ?_;rintro e w8 ⟨rfl,De⟩;have x0:=ah (b:=wr.heap.size) (o:=0) (v:=.slice Ax An Ac) De (by simp) (by simp[go_sem]);have x1:=ah (b:=wr.heap.size) (o:=1) (v:=.int .i64 y.count) De (by simp) (by simp[go_sem]);have eH:=aa ae De;clear e0 e1 De;have Fb:=hide eH;have gT:=hide (aa rD.out eH);clear eH;have dE:=hide yu.out.ne_new;have NK:=hide (HE2.out.below Fb.out);have yY:=hide (yu.out.below Fb.out);have LX:=lt_of_cell x0;have X0:=hide x0;have X1:=hide x1;have l6:=hide (aa (aa jg.out kw.out) gT.out);have Du:=hide gT.out;have Jh:=hyl;cases hv:VB y.row
   ·have HN:Hid (ys=(rows.take (k+1)).filter (λy=>VB y.row)):=hide (by rw[bf HX.out,List.filter_append,AO.out,List.filter_cons_of_neg (by simp[hv])];simp);have J9:=hide (aa kw.out gT.out);obtain ⟨-,⟨L2,r0,r1,r2,r3⟩, -⟩:=o1.out _ J9.out;go_wp2;go_roundw
    case rel=>exact ⟨k+1,ys,by omega,by go_num,HN.out,by omega,yY.out,Du.out⟩
    case measure=>simp[RowKit.intOf];omega
   ·have HN:Hid (ys++[y]=(rows.take (k+1)).filter (λy=>VB y.row)):=hide (by rw[bf HX.out,List.filter_append,AO.out,List.filter_cons_of_pos (by simp[hv])];simp);have BV:ys.length+1<=maxLen:=by simp only[maxLen];omega
    have BX:(ys.length+1)*32<=140737488355328:=by omega
    have hrl:An<=1048576:=by have h1:=HC.out.len;rw[<-HE2.out.len,qR G9.out];omega
    have wV:=hide (aa kw.out gT.out);obtain ⟨-,⟨L2,r0,r1,r2,r3⟩, -⟩:=o1.out _ wV.out;go_wp2;go_region_held3 (λV=>V.cell? ⟨wr.heap.size,0,none⟩=some (.slice Ax An Ac)/\V.cell? ⟨wr.heap.size,1,none⟩=some (.int .i64 y.count))
     (first|exact ⟨y0,y1⟩|exact ⟨ah Ah.out LX X0.out,ah Ah.out LX X1.out⟩|exact ⟨x0,x1⟩|go_keep)
     (first
      |(go_at_call 37;refine (sN _ Ax An Ac y.row (by exact NK.out.below (Below.refl _ _).drew) hrl).mono ?_;rintro e w6 ⟨⟨A6,c6,rfl,hs6⟩,hb6⟩;have Ah:=hide (au hb6);have Hy:=hide (hs6.mono λk hk=>show BS W5.heap.size (λ_=>False) [36] w6 k from .inr ⟨Nat.le_trans Du.out.size hk.1,_,by simp,hk.2⟩);have Ov:=hide (yY.out.below Ah.out);clear hs6 hb6)
      |(refine uL _ rfl _ _ _ rfl sO (by decide) w6 _ rfl Ov.out (by simp[Act.eval,Act.put]) (by simp[Act.eval,Act.put]) ⟨y.row,y.count⟩ ⟨_,_,_,rfl,Hy.out,e3⟩ BV BX ?_;intro v9 w9 lW eH mi gX;have uS:=hide lW;have y0:=(World.cell?_of_block (a:=⟨wr.heap.size,0,none⟩) (mi.block wr.heap.size (lt_of_cell (ah Ah.out LX X0.out)) dE.out)).trans (ah Ah.out LX X0.out);have y1:=(World.cell?_of_block (a:=⟨wr.heap.size,1,none⟩) (mi.block wr.heap.size (lt_of_cell (ah Ah.out LX X1.out)) dE.out)).trans (ah Ah.out LX X1.out);have lI:=hide (Du.out.trans ((Ah.out.mono Du.out.size).trans eH));clear lW eH mi gX))
    go_wp2;go_roundw
    case rel=>exact ⟨k+1,ys++[y],by omega,by go_num,HN.out,by simp;omega,uS.out,lI.out⟩
    case measure=>simp[RowKit.intOf];omega
  ·have HT:Hid (ys=rows.filter λy=>VB y.row):=hide (by rw[AO.out,List.take_of_length_le (by rw[HLEN.out];omega)]);have KG:Hid (R=(0,ys)):=hide (by rw[HD.out,HT.out];simp);have yY:=hide yu.out;have l6:=hide (aa (aa jg.out kw.out) rD.out);obtain rfl:=KG.out;have lH:=hide (aa kw.out rD.out);obtain ⟨-,⟨L2,r0,r1,r2,r3⟩, -⟩:=o1.out _ lH.out;go_wp2;go_ret2;exact ⟨⟨_,rfl,yY.out.rebase Kz.out⟩,l6.out⟩
structure Ver where
 name:ByteArray
 bad:Bool
 rows:Int
 part:Int
 whole:Int
def Ver.cells (v:Ver):List Value:=[.string v.name,.bool v.bad,.int .i64 v.rows,.int .i64 v.part,.int .i64 v.whole]
structure VerAt (w:World) (g:Nat) (v:Ver):Prop where
 c0:w.cell? ⟨g,0,none⟩=some (.string v.name)
 c1:w.cell? ⟨g,1,none⟩=some (.bool v.bad)
 c2:w.cell? ⟨g,2,none⟩=some (.int .i64 v.rows)
 c3:w.cell? ⟨g,3,none⟩=some (.int .i64 v.part)
 c4:w.cell? ⟨g,4,none⟩=some (.int .i64 v.whole)
 fz: ∀o,w.frozen? ⟨g,o,none⟩=false
theorem VerAt.lt {w:World}{g:Nat}{v:Ver}(h:VerAt w g v):g<w.heap.size:=lt_of_cell h.c0
theorem VerAt.below {w w':World}{g:Nat}{v:Ver}(h:VerAt w g v)(hb:Below w.heap.size w w'):VerAt w' g v:=
 ⟨ah hb h.lt h.c0,ah hb h.lt h.c1,ah hb h.lt h.c2,ah hb h.lt h.c3,ah hb h.lt h.c4,λo=>((aK hb).2 g o h.lt).trans (h.fz o)⟩
theorem xH {w:World}{g:Nat}(h: ∀o,w.frozen? ⟨g,o,none⟩=false)(b o:Nat)(u:Value): ∀o',(w.setCell ⟨b,o,none⟩ u).frozen? ⟨g,o',none⟩=false:=λo'=>by
 rw[World.frozen?_setCell];exact h o'
theorem VerAt.set3 {w:World}{g:Nat}{v:Ver}(h:VerAt w g v)(p:Int):VerAt (w.setCell ⟨g,3,none⟩ (.int .i64 p)) g {v with part:=p}:=
 ⟨af h.c0 (.inr (by omega)),af h.c1 (.inr (by omega)),af h.c2 (.inr (by omega)),bC h.c3,af h.c4 (.inr (by omega)),xH h.fz _ _ _⟩
end Go.Proofs.YtopjjlmfilgngaaGreatDoor
