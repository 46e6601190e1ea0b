/-
  check.Violations. (Printed by gen_vioW.py.) check.Violations. (Printed by gen_vioW.py.) check.Judge. (Printed by gen_jdg.py.)
-/
import Derived.Test.YtopjjlmfilgngaaGreatDoorViolP
import Derived.Test.YtopjjlmfilgngaaGreatDoorNorm
import Derived.Test.YtopjjlmfilgngaaGreatDoorGah
import Derived.Test.YtopjjlmfilgngaaGreatDoorViol
import Derived.Test.YtopjjlmfilgngaaGreatDoorGaj
import Derived.Test.YtopjjlmfilgngaaGreatDoorGap
namespace Go.Proofs.YtopjjlmfilgngaaGreatDoor
set_option maxHeartbeats 4000000
set_option maxRecDepth 100000
open Go.RowKit Go.Maps
set_option linter.unusedSimpArgs false
set_option linter.unusedVariables false
theorem OL.ne_new {α:Type}[Rep α]{e:TypeId}{B:Nat}{O:Nat->Prop}{T:List TypeId}{w:World}{v:Value}{xs:List α}(h:OL e B O T w v xs):some w.heap.size≠v.ownBlock:=λq=>by
 have:=(h.ty q.symm).2.lt;omega
theorem uJ (w:World)(x:Chk)(A:Option Addr)(n c:Nat)(hn:In w A n c x.cols)(A':Option Addr)(n' c':Nat)(hn':In w A' n' c' x.ocols)(bX:Option Addr)(n'' c'':Nat)(hq:In w bX n'' c'' x.cond)(hw:Words w)(rn:ByteArray)(A1:Option Addr)(n1 c1:Nat)(cols:List Col)(hc:In w A1 n1 c1 cols)(Ak:Option Addr)(nk ck:Nat)(A3:Option Addr)(n3 c3:Nat)(rows:List Ent)(hr:In w A3 n3 c3 rows)(on:ByteArray)(A2:Option Addr)(n2 c2:Nat)(ocols:List Col)(ho:In w A2 n2 c2 ocols)(Al:Option Addr)(nl cl:Nat)(A4:Option Addr)(n4 c4:Nat)(orows:List Ent)(hor:In w A4 n4 c4 orows)(A5:Option Addr)(n5 c5:Nat)(zs:List Zone)(hz:In w A5 n5 c5 zs)(hb0:n<=4096)(hb1:n'<=4096)(hb2:n1<=4096)(hb3:n2<=4096):
  Calls Tryz.prog 59 #[.agg (aR x A n c A' n' c' bX n'' c'').toArray,.agg #[.string rn,.slice A1 n1 c1,.slice Ak nk ck,.slice A3 n3 c3],.agg #[.string on,.slice A2 n2 c2,.slice Al nl cl,.slice A4 n4 c4],.slice A5 n5 c5] w
   λe w'=>(∃v,e=.returned (.tuple #[v,.int .i64 (nT x cols ocols rows orows zs).1])/\OE w.heap.size w' v (nT x cols ocols rows orows zs).2)/\Below w.heap.size w w':=by
 have HA:=hide λW hn hn' hq hw hc hr ho hor hz=>wS W x A n c hn A' n' c' hn' bX n'' c'' hq hw rn A1 n1 c1 cols hc Ak nk ck A3 n3 c3 rows hr on A2 n2 c2 ocols ho Al nl cl A4 n4 c4 orows hor A5 n5 c5 zs hz hb0 hb1 hb2 hb3;have HB:=hide λW hn hn' hq hw hc hr ho hor hz hE=>xG W x A n c hn A' n' c' hn' bX n'' c'' hq hw rn A1 n1 c1 cols hc Ak nk ck A3 n3 c3 rows hr on A2 n2 c2 ocols ho Al nl cl A4 n4 c4 orows hor A5 n5 c5 zs hz hb0 hb1 hb2 hb3 hE;have HD:=hide (show nT x cols ocols rows orows zs=if dh x cols ocols rows orows zs≠0 then (dh x cols ocols rows orows zs,[]) else (0,rows.filter λy=>bS x cols ocols rows orows zs y.row) from rfl);have HZ0:=hide (λh=>iY (c:=x) (rc:=cols) (oc:=ocols) (rr:=rows) (orr:=orows) (zs:=zs) h);obtain ⟨R,hR⟩: ∃R,nT x cols ocols rows orows zs=R:=⟨_,rfl⟩;obtain ⟨E,hE⟩: ∃E,dh x cols ocols rows orows zs=E:=⟨_,rfl⟩;obtain ⟨VB,uN⟩: ∃V,bS x cols ocols rows orows zs=V:=⟨_,rfl⟩;rw[hR,hE]at HD;rw[hE]at HA HZ0;rw[uN]at HD HB;simp only[hE]at HB;rw[hR];clear hR hE uN;simp only[aR]at HA HB⊢;go_enter Tryz.func59,Tryz.ntmps59;have HN:=hide hn;clear hn;have gF:=hide hn';clear hn';have HQ:=hide hq;clear hq;have HW:=hide hw;clear hw;have HC:=hide hc;clear hc;have HO:=hide ho;clear ho;have HZ:=hide hz;clear hz;have HR:=hide hr;clear hr;have xR:=hide hor;clear hor;go_wp2_with fail;obtain ⟨W3,hW3,kI,jf,o1⟩:=jK w x A n c A' n' c' bX n'' c'' rn A1 n1 c1 Ak nk ck A3 n3 c3 on A2 n2 c2 Al nl cl A4 n4 c4;rw[<-hW3];clear hW3;have jv:=hide jf;clear jf;obtain ⟨⟨LR,g0,g1,g2,g3,g4,g5,g6,g7,g8,g9,g10,g11,g12,g13⟩,⟨L2,r0,r1,r2,r3⟩,L3,s0,s1,s2,s3⟩:=o1.out _ (Below.refl _ _);go_wp2_with fail;refine (HA.out _ (HN.out.below jv.out) (gF.out.below jv.out) (HQ.out.below jv.out) (HW.out.below jv.out) (HC.out.below jv.out) (HR.out.below jv.out) (HO.out.below jv.out) (xR.out.below jv.out) (HZ.out.below jv.out)).mono ?_;rintro e w3 ⟨rfl,hb3⟩;have ED:=hide hb3;clear hb3;by_cases hE0:E=0;rotate_left
 ·have q0:(E != 0)=true:=by simpa using hE0
  have Qz:Hid (R=(E,[])):=hide (by rw[HD.out,if_pos hE0]);obtain rfl:=Qz.out;obtain ⟨⟨LR,g0,g1,g2,g3,g4,g5,g6,g7,g8,g9,g10,g11,g12,g13⟩,⟨L2,r0,r1,r2,r3⟩,L3,s0,s1,s2,s3⟩:=o1.out _ ED.out;go_wp2;all_goals (try (exfalso;go_light;simp_all;done));go_ret2;exact ⟨⟨_,rfl,OL.nil (aa jv.out ED.out).size⟩,(aa jv.out ED.out)⟩
 subst hE0;obtain ⟨⟨LR,g0,g1,g2,g3,g4,g5,g6,g7,g8,g9,g10,g11,g12,g13⟩,⟨L2,r0,r1,r2,r3⟩,L3,s0,s1,s2,s3⟩:=o1.out _ ED.out;go_wp2_with fail;have En:=hide (aa jv.out ED.out);refine (HB.out _ (HN.out.below En.out) (gF.out.below En.out) (HQ.out.below En.out) (HW.out.below En.out) (HC.out.below En.out) (HR.out.below En.out) (HO.out.below En.out) (xR.out.below En.out) (HZ.out.below En.out) (by first|rfl|trivial)).mono ?_;rintro e w5 ⟨⟨fv,rfl,hbad⟩,hb5⟩;have lJ:=hide (aa ED.out hb5);clear hb5;have HBAD:=hide hbad;have QL:=hide (aG (HZ0.out (by first|rfl|trivial)).2.1);have QA:=hide (eB QL.out.1 QL.out.2.1);have OH:n3<=4096:=by have:=QA.out.1;rw[HR.out.len]at this;exact this
 have HLEN:=hide HR.out.len;have h63:=HR.out.le;clear hbad;obtain ⟨k9,EP,rfl,hcf,hcall⟩:=HBAD.out;have MW:=hide hcall;clear hcall HBAD;obtain ⟨W5,rfl⟩: ∃W,W=w5:=⟨_,rfl⟩;have Qv:=hide (aa jv.out lJ.out).size;obtain ⟨-,⟨L2,r0,r1,r2,r3⟩, -⟩:=o1.out _ lJ.out;go_wp2;go_loopw [12,31] (λo i wr=> ∃(k:Nat) (ys:List Ent),k<=n3/\i=.int .i64 k/\ys=(rows.take k).filter (λy=>VB y.row)/\ys.length<=k/\OE W5.heap.size wr o ys/\Below W5.heap.size W5 wr) (λ_ i _=>n3-(RowKit.intOf i).toNat)
 case atStart=>exact ⟨0,[],Nat.zero_le _,rfl,by simp,by simp,OL.nil (Nat.le_refl _),Below.refl _ _⟩
 case round=>
  obtain ⟨k,ys,hk,rfl,hys,hyl,hol,hb⟩:=hrel;have Ew:=hide hys;have BP:=hide hol;clear hys hol;have xK:=hide hb;clear hb;by_cases hlt:k<n3
  ·have Qd:=hide (aa (aa jv.out lJ.out) xK.out);obtain ⟨b,off,y,rfl,hBb,HX,Ax,An,Ac,e0,e1,e2,e3⟩:=(HR.out.below Qd.out).ent hlt;have k0:(0:Int)<=(k:Int):=by omega
   have k1:(k:Int)<(n3:Int):=by omega
   have Hd:=hide (QL.out.2.2 y (aF HX.out));have HE2:=hide e2;have QO:=hide xK.out;have WA:=hide (aa (aa jv.out lJ.out) xK.out);clear e2;have GY:=hide (aa lJ.out xK.out);obtain ⟨-,⟨L2,r0,r1,r2,r3⟩, -⟩:=o1.out _ GY.out;go_wp2_with fail;refine (MW.out _ (by exact aa xK.out ae) _ _ _ y.row (by exact HE2.out.below ae) Hd.out).mono ?_;rintro e w8 ⟨rfl,Bd⟩;have x0:=aj (b:=wr.heap.size) (o:=0) (v:=.slice Ax An Ac) Bd (by simp) (by simp[go_sem]);have x1:=aj (b:=wr.heap.size) (o:=1) (v:=.int .i64 y.count) Bd (by simp) (by simp[go_sem]);have fo:=aa ae Bd;clear e0 e1 Bd;have J4:=hide fo;have nA:=hide (aa xK.out fo);clear fo;have dU:=hide BP.out.ne_new;have Uk:=hide (HE2.out.below J4.out);have CF:=hide (BP.out.below J4.out);have LX:=lt_of_cell x0;have X0:=hide x0;have X1:=hide x1;have jr:=hide (aa (aa jv.out lJ.out) nA.out);have Et:=hide nA.out;have OW:=hyl;cases hv:VB y.row
   ·have HN:Hid (ys=(rows.take (k+1)).filter (λy=>VB y.row)):=hide (by rw[bN HX.out,List.filter_append,Ew.out,List.filter_cons_of_neg (by simp[hv])];simp);have P7:=hide (aa lJ.out nA.out);obtain ⟨-,⟨L2,r0,r1,r2,r3⟩, -⟩:=o1.out _ P7.out;go_wp2;go_roundw
    case rel=>exact ⟨k+1,ys,by omega,by go_num,HN.out,by omega,CF.out,Et.out⟩
    case measure=>simp[RowKit.intOf];omega
   ·have HN:Hid (ys++[y]=(rows.take (k+1)).filter (λy=>VB y.row)):=hide (by rw[bN HX.out,List.filter_append,Ew.out,List.filter_cons_of_pos (by simp[hv])];simp);have FL:ys.length+1<=maxLen:=by simp only[maxLen];omega
    have FM:(ys.length+1)*32<=140737488355328:=by omega
    have hrl:An<=1048576:=by have h1:=HC.out.len;rw[<-HE2.out.len,oG Hd.out];omega
    have zW:=hide (aa lJ.out nA.out);obtain ⟨-,⟨L2,r0,r1,r2,r3⟩, -⟩:=o1.out _ zW.out;go_wp2;go_region_held3 (λV=>V.cell? ⟨wr.heap.size,0,none⟩=some (.slice Ax An Ac)/\V.cell? ⟨wr.heap.size,1,none⟩=some (.int .i64 y.count))
     (first|exact ⟨y0,y1⟩|exact ⟨aj Ee.out LX X0.out,aj Ee.out LX X1.out⟩|exact ⟨x0,x1⟩|go_keep)
     (first
      |(go_at_call 37;refine (vK _ Ax An Ac y.row (by exact Uk.out.below (Below.refl _ _).drew) hrl).mono ?_;rintro e w6 ⟨⟨A6,c6,rfl,hs6⟩,hb6⟩;have Ee:=hide (ak hb6);have Nk:=hide (hs6.mono λk hk=>show BS W5.heap.size (λ_=>False) [36] w6 k from .inr ⟨Nat.le_trans Et.out.size hk.1,_,by simp,hk.2⟩);have Pg:=hide (CF.out.below Ee.out);clear hs6 hb6)
      |(refine xD _ rfl _ _ _ rfl vM (by decide) w6 _ rfl Pg.out (by simp[Act.eval,Act.put]) (by simp[Act.eval,Act.put]) ⟨y.row,y.count⟩ ⟨_,_,_,rfl,Nk.out,e3⟩ FL FM ?_;intro v9 w9 vV fo xe pE;have Aa:=hide vV;have y0:=(World.cell?_of_block (a:=⟨wr.heap.size,0,none⟩) (xe.block wr.heap.size (lt_of_cell (aj Ee.out LX X0.out)) dU.out)).trans (aj Ee.out LX X0.out);have y1:=(World.cell?_of_block (a:=⟨wr.heap.size,1,none⟩) (xe.block wr.heap.size (lt_of_cell (aj Ee.out LX X1.out)) dU.out)).trans (aj Ee.out LX X1.out);have zZ:=hide (Et.out.trans ((Ee.out.mono Et.out.size).trans fo));clear vV fo xe pE))
    go_wp2;go_roundw
    case rel=>exact ⟨k+1,ys++[y],by omega,by go_num,HN.out,by simp;omega,Aa.out,zZ.out⟩
    case measure=>simp[RowKit.intOf];omega
  ·have HT:Hid (ys=rows.filter λy=>VB y.row):=hide (by rw[Ew.out,List.take_of_length_le (by rw[HLEN.out];omega)]);have Qz:Hid (R=(0,ys)):=hide (by rw[HD.out,HT.out];simp);have CF:=hide BP.out;have jr:=hide (aa (aa jv.out lJ.out) xK.out);obtain rfl:=Qz.out;have ni:=hide (aa lJ.out xK.out);obtain ⟨-,⟨L2,r0,r1,r2,r3⟩, -⟩:=o1.out _ ni.out;go_wp2;go_ret2;exact ⟨⟨_,rfl,CF.out.rebase Qv.out⟩,jr.out⟩
structure Ver where
 name:ByteArray
 bad:Bool
 rows:Int
 part:Int
 whole:Int
def Ver.cells (v:Ver):List Value:=[.string v.name,.bool v.bad,.int .i64 v.rows,.int .i64 v.part,.int .i64 v.whole]
structure VerAt (w:World) (g:Nat) (v:Ver):Prop where
 c0:w.cell? ⟨g,0,none⟩=some (.string v.name)
 c1:w.cell? ⟨g,1,none⟩=some (.bool v.bad)
 c2:w.cell? ⟨g,2,none⟩=some (.int .i64 v.rows)
 c3:w.cell? ⟨g,3,none⟩=some (.int .i64 v.part)
 c4:w.cell? ⟨g,4,none⟩=some (.int .i64 v.whole)
 fz: ∀o,w.frozen? ⟨g,o,none⟩=false
theorem VerAt.lt {w:World}{g:Nat}{v:Ver}(h:VerAt w g v):g<w.heap.size:=lt_of_cell h.c0
theorem VerAt.below {w w':World}{g:Nat}{v:Ver}(h:VerAt w g v)(hb:Below w.heap.size w w'):VerAt w' g v:=
 ⟨aj hb h.lt h.c0,aj hb h.lt h.c1,aj hb h.lt h.c2,aj hb h.lt h.c3,aj hb h.lt h.c4,λo=>((aP hb).2 g o h.lt).trans (h.fz o)⟩
theorem AX {w:World}{g:Nat}(h: ∀o,w.frozen? ⟨g,o,none⟩=false)(b o:Nat)(u:Value): ∀o',(w.setCell ⟨b,o,none⟩ u).frozen? ⟨g,o',none⟩=false:=λo'=>by
 rw[World.frozen?_setCell];exact h o'
theorem VerAt.set3 {w:World}{g:Nat}{v:Ver}(h:VerAt w g v)(p:Int):VerAt (w.setCell ⟨g,3,none⟩ (.int .i64 p)) g {v with part:=p}:=
 ⟨af h.c0 (.inr (by omega)),af h.c1 (.inr (by omega)),af h.c2 (.inr (by omega)),bK h.c3,af h.c4 (.inr (by omega)),AX h.fz _ _ _⟩
end Go.Proofs.YtopjjlmfilgngaaGreatDoor
