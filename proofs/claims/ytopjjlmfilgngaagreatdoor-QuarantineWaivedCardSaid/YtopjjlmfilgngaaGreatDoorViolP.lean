/-
  check.violated: the function that reports whether a row violates a row check: unique checks, and checks of no row. (Printed by gen_viol.py.)
-/
import Derived.Laws.EntriesVeiled
import Derived.Test.YtopjjlmfilgngaaGreatDoorChkA
import Derived.Test.YtopjjlmfilgngaaGreatDoorCls
import Derived.Test.YtopjjlmfilgngaaGreatDoorGai
namespace Go.Proofs.YtopjjlmfilgngaaGreatDoor
set_option maxHeartbeats 4000000
set_option maxRecDepth 100000
open Go.RowKit Go.Maps
set_option linter.unusedSimpArgs false
set_option linter.unusedVariables false
theorem yB {cols:List Col}{names:List ByteArray}{rows:List Ent}{v:List Val}(hc:ax cols=0)(hi:(aR cols names).1=0)(hr: ∀x∈rows,aD cols x.row=0)(hl:v.length<=12)(hv: ∀u∈v,valid u=true):
  mQ cols names rows (aI v)=gK (F7 cols names rows v):=by
 rw[mQ,F7]
 congr 1
 refine List.filter_congr λx hx=>?_;obtain ⟨_,h2,h3⟩:=lu hc hi (hr x hx);have h:=CR h2 h3 hl hv;cases h4:nE (aN cols names x.row) v
 ·have h5:¬aN cols names x.row=v:=λe=>by rw[jy.2 e]at h4;cases h4
  simpa using λe=>h5 (h.1 e)
 ·simpa using h.2 (jy.1 h4)
def mI (w:World)(fv:Value)(rc:List Col)(f:List Val->Bool):Prop:=
 ∃(k:Nat) (Bi:List Value),fv=.func (.func k) #[] Bi.toArray/\(∀args W,(callFunc k args).run Tryz.prog W=.ok (.enter k args) W)/\ ∀W,Below w.heap.size w W-> ∀A n c row,In W A n c row->aD rc row=0->
  Calls Tryz.prog k (.slice A n c :: Bi).toArray W λe w'=>e=.returned (.bool (f row))/\Below W.heap.size W w'
theorem mI.below {w w1:World}{fv:Value}{rc:List Col}{f:List Val->Bool}(h:mI w fv rc f)(hb:Below w.heap.size w w1):mI w1 fv rc f:=by
 obtain ⟨k,Bi,h1,h0,h2⟩:=h;exact ⟨k,Bi,h1,h0,λW hW=>h2 W (aa hb hW)⟩
theorem jC {x:Chk}{rc oc:List Col}{rr orr:List Ent}{zs:List Zone}{row:List Val}:
  (x.kind=0->dn x rc oc rr orr zs row=decide (1<gK (F7 rc x.cols rr (aN rc x.cols row))))/\(x.kind=1->dn x rc oc rr orr zs row=kR (aN rc x.cols row))/\
  (x.kind=2->dn x rc oc rr orr zs row=xW x ((aN rc x.cols row).getD 0 zeroV))/\(x.kind=3->dn x rc oc rr orr zs row=(!kR (aN rc x.cols row)&&(F7 oc x.ocols orr (aN rc x.cols row)).isEmpty))/\
  (x.kind=4->dn x rc oc rr orr zs row=!nZ x.cond rc row zs)/\(¬x.kind=0->¬x.kind=1->¬x.kind=2->¬x.kind=3->¬x.kind=4->dn x rc oc rr orr zs row=false):=by
 refine ⟨?_,?_,?_,?_,?_,?_⟩
 ·intro h;simp[dn,h]
 ·intro h;simp[dn,h]
 ·intro h;simp[dn,h]
 ·intro h;simp[dn,h]
 ·intro h;simp[dn,h]
 ·intro h0 h1 h2 h3 h4;simp[dn,h0,h1,h2,h3,h4]
theorem rq (w:World)(x:Chk)(A:Option Addr)(n c:Nat)(hn:In w A n c x.cols)(A':Option Addr)(n' c':Nat)(hn':In w A' n' c' x.ocols)(bN:Option Addr)(n'' c'':Nat)(hq:In w bN n'' c'' x.cond)(hw:Words w)(rn:ByteArray)(A1:Option Addr)(n1 c1:Nat)(cols:List Col)(hc:In w A1 n1 c1 cols)(Ak:Option Addr)(nk ck:Nat)(A3:Option Addr)(n3 c3:Nat)(rows:List Ent)(hr:In w A3 n3 c3 rows)(on:ByteArray)(A2:Option Addr)(n2 c2:Nat)(ocols:List Col)(ho:In w A2 n2 c2 ocols)(Al:Option Addr)(nl cl:Nat)(A4:Option Addr)(n4 c4:Nat)(aG:List Ent)(hor:In w A4 n4 c4 aG)(A5:Option Addr)(n5 c5:Nat)(zs:List Zone)(hz:In w A5 n5 c5 zs)(hb0:n<=4096)(hb1:n'<=4096)(hb2:n1<=4096)(hb3:n2<=4096)(hE:ed x cols ocols rows aG zs=0)(hK:((x.kind==0)=true)\/((x.kind==0)=false/\(x.kind==1)=false/\(x.kind==2)=false/\(x.kind==3)=false/\(x.kind==4)=false)):
  Calls Tryz.prog 85 #[.agg (aL x A n c A' n' c' bN n'' c'').toArray,.agg #[.string rn,.slice A1 n1 c1,.slice Ak nk ck,.slice A3 n3 c3],.agg #[.string on,.slice A2 n2 c2,.slice Al nl cl,.slice A4 n4 c4],.slice A5 n5 c5] w
   λe w'=>(∃fv,e=.returned fv/\mI w' fv cols (dn x cols ocols rows aG zs))/\Below w.heap.size w w':=by
 obtain ⟨hE1,hE2,rP⟩:=il hE;obtain ⟨⟨k0,k6⟩,hcz,iR⟩:=kF hE1;obtain ⟨hbz,htz,hrz⟩:=bB hE2;obtain ⟨hrl,hrc⟩:=eB hbz htz;have hrl':n3<=4096:=by rw[<-hr.len];exact hrl
 have HV:=hide λrow=>jC (x:=x) (rc:=cols) (oc:=ocols) (rr:=rows) (orr:=aG) (zs:=zs) (row:=row);obtain ⟨VB,rE⟩: ∃V,dn x cols ocols rows aG zs=V:=⟨_,rfl⟩;rw[rE];have C9:=hide rE;have EW:=hide rP;have EU:=hide hcz;have oC:=hide iR;have Ho:=hide hrc;have Hw:=hide hrz;clear hE hE1 hE2 rP hcz iR hbz htz hrl hrc hrz rE k0 k6;simp only[aL];rcases hK with q0|⟨q0,q1,q2,q3,q4⟩
 ·go_enter Tryz.func85,Tryz.ntmps85;have HN:=hide hn;clear hn;have fM:=hide hn';clear hn';have HQ:=hide hq;clear hq;have HW:=hide hw;clear hw;have HC:=hide hc;clear hc;have HO:=hide ho;clear ho;have HZ:=hide hz;clear hz;have HR:=hide hr;clear hr;have uT:=hide hor;clear hor;go_wp2_with fail;obtain ⟨W3,hW3,jJ,iB,o1⟩:=iY w x A n c A' n' c' bN n'' c'' rn A1 n1 c1 Ak nk ck A3 n3 c3 on A2 n2 c2 Al nl cl A4 n4 c4;rw[<-hW3];clear hW3;have jg:=hide iB;clear iB;obtain ⟨W4,nY⟩: ∃W,W=W3.alloc (.cells #[.slice A5 n5 c5] 90):=⟨_,rfl⟩;obtain ⟨jq,nN,z0⟩:=fC (b:=w.heap.size+1+1+1) nY (by rw[jJ.out]);rw[<-nY];clear nY;have lK:=hide jq;clear jq;have L4:=lt_of_cell z0;obtain ⟨FV,qm⟩: ∃v,v=Value.func (.func 116) #[] #[.pointer (some ⟨w.heap.size+1,0,none⟩),.pointer (some ⟨w.heap.size,0,none⟩)]:=⟨_,rfl⟩;rw[<-qm];have Dt:=hide qm;clear qm;obtain ⟨W5,mg⟩: ∃W,W=W4.alloc (.cells #[FV] 97):=⟨_,rfl⟩;obtain ⟨iC,uX,p0⟩:=fC (b:=w.heap.size+1+1+1+1) mg (by rw[nN.out,jJ.out]);rw[<-mg];clear mg;have o4:=jP z0;have lc:=hide iC;clear iC;have L5:=lt_of_cell p0;obtain ⟨hi,_,_,_⟩:=oC.out (by have h9:x.kind=0:=(by simpa using q0);rw[lZ,h9];rfl);have HI:=hide hi;have Gm:=hide (aa lK.out lc.out);obtain ⟨⟨LR,g0,g1,g2,g3,g4,g5,g6,g7,g8,g9,g10,g11,g12,g13⟩,⟨L2,r0,r1,r2,r3⟩,L3,s0,s1,s2,s3⟩:=o1.out _ Gm.out;obtain ⟨L4,z0⟩:=o4.out _ lc.out;go_wp2_with fail;have GR:=hide (aa (aa jg.out lK.out) lc.out);refine (oG _ rn A1 n1 c1 cols (HC.out.below GR.out) Ak nk ck A3 n3 c3 rows (HR.out.below GR.out) A n c x.cols (HN.out.below GR.out) hb2 hb0 hrl' Ho.out).mono ?_;rintro e w6 ⟨⟨b,rfl,I5,hS⟩,hb6⟩;have o9:=uO (lM g0 g1 g2 g3 g4 g5 g6 g7 g8 g9 g10 g11 g12 g13) (uO (mO r0 r1 r2 r3) (uO (mO s0 s1 s2 s3) (uO (jP z0) (jP p0))));have dH:=hide hb6;clear hb6;have HS:=hide hS;clear hS;obtain ⟨W7,BO⟩: ∃W,W=w6.alloc (.cells #[.map (some b)] 157):=⟨_,rfl⟩;have m0:W7.cell? ⟨w6.heap.size,0,none⟩=some (.map (some b)):=by rw[BO];simp[go_sem]
  have mh:Below w6.heap.size w6 W7:=by rw[BO];exact ae
  obtain ⟨⟨LR,g0,g1,g2,g3,g4,g5,g6,g7,g8,g9,g10,g11,g12,g13⟩,⟨L2,r0,r1,r2,r3⟩,⟨L3,s0,s1,s2,s3⟩,⟨L4,z0⟩,L5,p0⟩:=o9.out _ dH.out;have Dl:=hide (aa (aa (aa jg.out lK.out) lc.out) dH.out);have HOW:=hide (OwnAt.mk (names:=x.cols) (cols:=cols) (p0.trans (congrArg some Dt.out)) r1 g3 (HC.out.below Dl.out) (HN.out.below Dl.out));have Aj:=hide m0;have ES:=hide mh;have l6:=hide (aa (aa (aa (aa jg.out lK.out) lc.out) dH.out) mh);clear m0 mh;go_wp2;all_goals (try (exfalso;go_light;simp_all;done));rw[<-BO];go_ret;exact ⟨⟨_,rfl,118,[.pointer (some ⟨w6.heap.size,0,none⟩),.pointer (some ⟨w.heap.size+1+1+1+1,0,none⟩)],rfl,(λargs W=>by go_simp),λW hW Ar nr cr row hrow hfit=>by
   have h1:=yj W _ _ _ A1 n1 c1 cols A n c x.cols (HOW.out.below (aa ES.out hW)) hb2 hb0 Ar nr cr row hrow w6.heap.size b n3 (ah hW (lt_of_cell Aj.out) Aj.out) _ (HS.out.below (aa ES.out hW));obtain ⟨p1,p2,p3⟩:=lu EU.out HI.out hfit;rw[yB EU.out HI.out Hw.out p2 p3]at h1;rw[<-C9.out,(HV.out row).1 (by simpa using q0)];exact h1⟩,l6.out⟩
 ·go_enter Tryz.func85,Tryz.ntmps85;have HN:=hide hn;clear hn;have fM:=hide hn';clear hn';have HQ:=hide hq;clear hq;have HW:=hide hw;clear hw;have HC:=hide hc;clear hc;have HO:=hide ho;clear ho;have HZ:=hide hz;clear hz;have HR:=hide hr;clear hr;have uT:=hide hor;clear hor;go_wp2_with fail;obtain ⟨W3,hW3,jJ,iB,o12⟩:=iY w x A n c A' n' c' bN n'' c'' rn A1 n1 c1 Ak nk ck A3 n3 c3 on A2 n2 c2 Al nl cl A4 n4 c4;rw[<-hW3];clear hW3;have tZ:=hide iB;clear iB;obtain ⟨W4,nY⟩: ∃W,W=W3.alloc (.cells #[.slice A5 n5 c5] 90):=⟨_,rfl⟩;obtain ⟨jq,nN,z0⟩:=fC (b:=w.heap.size+1+1+1) nY (by rw[jJ.out]);rw[<-nY];clear nY;have uV:=hide jq;clear jq;have L4:=lt_of_cell z0;obtain ⟨FV,qm⟩: ∃v,v=Value.func (.func 116) #[] #[.pointer (some ⟨w.heap.size+1,0,none⟩),.pointer (some ⟨w.heap.size,0,none⟩)]:=⟨_,rfl⟩;rw[<-qm];have Dt:=hide qm;clear qm;obtain ⟨W5,mg⟩: ∃W,W=W4.alloc (.cells #[FV] 97):=⟨_,rfl⟩;obtain ⟨iC,uX,p0⟩:=fC (b:=w.heap.size+1+1+1+1) mg (by rw[nN.out,jJ.out]);rw[<-mg];clear mg;have Me:=jP z0;have mJ:=hide iC;clear iC;have L5:=lt_of_cell p0;have l6:=hide (aa (aa tZ.out uV.out) mJ.out);have uP:=hide (aa uV.out mJ.out);obtain ⟨⟨LR,g0,g1,g2,g3,g4,g5,g6,g7,g8,g9,g10,g11,g12,g13⟩,⟨L2,r0,r1,r2,r3⟩,L3,s0,s1,s2,s3⟩:=o12.out _ uP.out;obtain ⟨L4,z0⟩:=Me.out _ mJ.out;go_wp2;all_goals (try (exfalso;go_light;simp_all;done));go_ret;exact ⟨⟨_,rfl,126,[],rfl,(λargs W=>by go_simp),λW hW Ar nr cr row hrow hfit=>by
   have h1:=Cr W (.slice Ar nr cr);rw[<-C9.out,(HV.out row).2.2.2.2.2 (by simpa using q0) (by simpa using q1) (by simpa using q2) (by simpa using q3) (by simpa using q4)];exact h1⟩,l6.out⟩
end Go.Proofs.YtopjjlmfilgngaaGreatDoor
