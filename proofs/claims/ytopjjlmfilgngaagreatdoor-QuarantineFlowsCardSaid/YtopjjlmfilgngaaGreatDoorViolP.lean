/-
  check.violated: the function that reports whether a row violates a row check: unique checks, and checks of no row. (Printed by gen_viol.py.)
-/
import Derived.Laws.EntriesVeiled
import Derived.Test.YtopjjlmfilgngaaGreatDoorChkA
import Derived.Test.YtopjjlmfilgngaaGreatDoorCls
import Derived.Test.YtopjjlmfilgngaaGreatDoorGah
namespace Go.Proofs.YtopjjlmfilgngaaGreatDoor
set_option maxHeartbeats 4000000
set_option maxRecDepth 100000
open Go.RowKit Go.Maps
set_option linter.unusedSimpArgs false
set_option linter.unusedVariables false
theorem Cb {cols:List Col}{names:List ByteArray}{rows:List Ent}{v:List Val}(hc:aC cols=0)(hi:(aW cols names).1=0)(hr: ∀x∈rows,aB cols x.row=0)(hl:v.length<=12)(hv: ∀u∈v,valid u=true):
  oZ cols names rows (aJ v)=iG (Js cols names rows v):=by
 rw[oZ,Js]
 congr 1
 refine List.filter_congr λx hx=>?_;obtain ⟨_,h2,h3⟩:=mR hc hi (hr x hx);have h:=zJ h2 h3 hl hv;cases h4:uA (aO cols names x.row) v
 ·have h5:¬aO cols names x.row=v:=λe=>by rw[mV.2 e]at h4;cases h4
  simpa using λe=>h5 (h.1 e)
 ·simpa using h.2 (mV.1 h4)
def oO (w:World)(fv:Value)(rc:List Col)(f:List Val->Bool):Prop:=
 ∃(k:Nat) (EP:List Value),fv=.func (.func k) #[] EP.toArray/\(∀args W,(callFunc k args).run Tryz.prog W=.ok (.enter k args) W)/\ ∀W,Below w.heap.size w W-> ∀A n c row,In W A n c row->aB rc row=0->
  Calls Tryz.prog k (.slice A n c :: EP).toArray W λe w'=>e=.returned (.bool (f row))/\Below W.heap.size W w'
theorem oO.below {w w1:World}{fv:Value}{rc:List Col}{f:List Val->Bool}(h:oO w fv rc f)(hb:Below w.heap.size w w1):oO w1 fv rc f:=by
 obtain ⟨k,EP,h1,h0,h2⟩:=h;exact ⟨k,EP,h1,h0,λW hW=>h2 W (aa hb hW)⟩
theorem kz {x:Chk}{rc oc:List Col}{rr orr:List Ent}{zs:List Zone}{row:List Val}:
  (x.kind=0->bS x rc oc rr orr zs row=decide (1<iG (Js rc x.cols rr (aO rc x.cols row))))/\(x.kind=1->bS x rc oc rr orr zs row=jS (aO rc x.cols row))/\
  (x.kind=2->bS x rc oc rr orr zs row=Bt x ((aO rc x.cols row).getD 0 zeroV))/\(x.kind=3->bS x rc oc rr orr zs row=(!jS (aO rc x.cols row)&&(Js oc x.ocols orr (aO rc x.cols row)).isEmpty))/\
  (x.kind=4->bS x rc oc rr orr zs row=!qC x.cond rc row zs)/\(¬x.kind=0->¬x.kind=1->¬x.kind=2->¬x.kind=3->¬x.kind=4->bS x rc oc rr orr zs row=false):=by
 refine ⟨?_,?_,?_,?_,?_,?_⟩
 ·intro h;simp[bS,h]
 ·intro h;simp[bS,h]
 ·intro h;simp[bS,h]
 ·intro h;simp[bS,h]
 ·intro h;simp[bS,h]
 ·intro h0 h1 h2 h3 h4;simp[bS,h0,h1,h2,h3,h4]
theorem uI (w:World)(x:Chk)(A:Option Addr)(n c:Nat)(hn:In w A n c x.cols)(A':Option Addr)(n' c':Nat)(hn':In w A' n' c' x.ocols)(bX:Option Addr)(n'' c'':Nat)(hq:In w bX n'' c'' x.cond)(hw:Words w)(rn:ByteArray)(A1:Option Addr)(n1 c1:Nat)(cols:List Col)(hc:In w A1 n1 c1 cols)(Ak:Option Addr)(nk ck:Nat)(A3:Option Addr)(n3 c3:Nat)(rows:List Ent)(hr:In w A3 n3 c3 rows)(on:ByteArray)(A2:Option Addr)(n2 c2:Nat)(ocols:List Col)(ho:In w A2 n2 c2 ocols)(Al:Option Addr)(nl cl:Nat)(A4:Option Addr)(n4 c4:Nat)(orows:List Ent)(hor:In w A4 n4 c4 orows)(A5:Option Addr)(n5 c5:Nat)(zs:List Zone)(hz:In w A5 n5 c5 zs)(hb0:n<=4096)(hb1:n'<=4096)(hb2:n1<=4096)(hb3:n2<=4096)(hE:dh x cols ocols rows orows zs=0)(hK:((x.kind==0)=true)\/((x.kind==0)=false/\(x.kind==1)=false/\(x.kind==2)=false/\(x.kind==3)=false/\(x.kind==4)=false)):
  Calls Tryz.prog 85 #[.agg (aR x A n c A' n' c' bX n'' c'').toArray,.agg #[.string rn,.slice A1 n1 c1,.slice Ak nk ck,.slice A3 n3 c3],.agg #[.string on,.slice A2 n2 c2,.slice Al nl cl,.slice A4 n4 c4],.slice A5 n5 c5] w
   λe w'=>(∃fv,e=.returned fv/\oO w' fv cols (bS x cols ocols rows orows zs))/\Below w.heap.size w w':=by
 obtain ⟨hE1,hE2,uU⟩:=iY hE;obtain ⟨⟨k0,k6⟩,hcz,jB⟩:=lU hE1;obtain ⟨hbz,htz,hrz⟩:=aG hE2;obtain ⟨hrl,hrc⟩:=eB hbz htz;have hrl':n3<=4096:=by rw[<-hr.len];exact hrl
 have HV:=hide λrow=>kz (x:=x) (rc:=cols) (oc:=ocols) (rr:=rows) (orr:=orows) (zs:=zs) (row:=row);obtain ⟨VB,uN⟩: ∃V,bS x cols ocols rows orows zs=V:=⟨_,rfl⟩;rw[uN];have GJ:=hide uN;have JQ:=hide uU;have JP:=hide hcz;have qN:=hide jB;have Nf:=hide hrc;have Nj:=hide hrz;clear hE hE1 hE2 uU hcz jB hbz htz hrl hrc hrz uN k0 k6;simp only[aR];rcases hK with q0|⟨q0,q1,q2,q3,q4⟩
 ·go_enter Tryz.func85,Tryz.ntmps85;have HN:=hide hn;clear hn;have gF:=hide hn';clear hn';have HQ:=hide hq;clear hq;have HW:=hide hw;clear hw;have HC:=hide hc;clear hc;have HO:=hide ho;clear ho;have HZ:=hide hz;clear hz;have HR:=hide hr;clear hr;have xR:=hide hor;clear hor;go_wp2_with fail;obtain ⟨W3,hW3,kI,jf,o1⟩:=jK w x A n c A' n' c' bX n'' c'' rn A1 n1 c1 Ak nk ck A3 n3 c3 on A2 n2 c2 Al nl cl A4 n4 c4;rw[<-hW3];clear hW3;have jv:=hide jf;clear jf;obtain ⟨W4,qA⟩: ∃W,W=W3.alloc (.cells #[.slice A5 n5 c5] 90):=⟨_,rfl⟩;obtain ⟨j6,qi,z0⟩:=gJ (b:=w.heap.size+1+1+1) qA (by rw[kI.out]);rw[<-qA];clear qA;have lM:=hide j6;clear j6;have L4:=lt_of_cell z0;obtain ⟨FV,sW⟩: ∃v,v=Value.func (.func 116) #[] #[.pointer (some ⟨w.heap.size+1,0,none⟩),.pointer (some ⟨w.heap.size,0,none⟩)]:=⟨_,rfl⟩;rw[<-sW];have Hf:=hide sW;clear sW;obtain ⟨W5,nZ⟩: ∃W,W=W4.alloc (.cells #[FV] 97):=⟨_,rfl⟩;obtain ⟨jg,yf,p0⟩:=gJ (b:=w.heap.size+1+1+1+1) nZ (by rw[qi.out,kI.out]);rw[<-nZ];clear nZ;have o4:=kM z0;have nD:=hide jg;clear jg;have L5:=lt_of_cell p0;obtain ⟨hi,_,_,_⟩:=qN.out (by have h9:x.kind=0:=(by simpa using q0);rw[nS,h9];rfl);have HI:=hide hi;have Ma:=hide (aa lM.out nD.out);obtain ⟨⟨LR,g0,g1,g2,g3,g4,g5,g6,g7,g8,g9,g10,g11,g12,g13⟩,⟨L2,r0,r1,r2,r3⟩,L3,s0,s1,s2,s3⟩:=o1.out _ Ma.out;obtain ⟨L4,z0⟩:=o4.out _ nD.out;go_wp2_with fail;have MR:=hide (aa (aa jv.out lM.out) nD.out);refine (qQ _ rn A1 n1 c1 cols (HC.out.below MR.out) Ak nk ck A3 n3 c3 rows (HR.out.below MR.out) A n c x.cols (HN.out.below MR.out) hb2 hb0 hrl' Nf.out).mono ?_;rintro e w6 ⟨⟨b,rfl,Ov,hS⟩,hb6⟩;have o9:=xL (nK g0 g1 g2 g3 g4 g5 g6 g7 g8 g9 g10 g11 g12 g13) (xL (rJ r0 r1 r2 r3) (xL (rJ s0 s1 s2 s3) (xL (kM z0) (kM p0))));have dC:=hide hb6;clear hb6;have HS:=hide hS;clear hS;obtain ⟨W7,LA⟩: ∃W,W=w6.alloc (.cells #[.map (some b)] 157):=⟨_,rfl⟩;have m0:W7.cell? ⟨w6.heap.size,0,none⟩=some (.map (some b)):=by rw[LA];simp[go_sem]
  have j5:Below w6.heap.size w6 W7:=by rw[LA];exact ae
  obtain ⟨⟨LR,g0,g1,g2,g3,g4,g5,g6,g7,g8,g9,g10,g11,g12,g13⟩,⟨L2,r0,r1,r2,r3⟩,⟨L3,s0,s1,s2,s3⟩,⟨L4,z0⟩,L5,p0⟩:=o9.out _ dC.out;have GZ:=hide (aa (aa (aa jv.out lM.out) nD.out) dC.out);have HOW:=hide (OwnAt.mk (names:=x.cols) (cols:=cols) (p0.trans (congrArg some Hf.out)) r1 g3 (HC.out.below GZ.out) (HN.out.below GZ.out));have Eg:=hide m0;have MU:=hide j5;have jr:=hide (aa (aa (aa (aa jv.out lM.out) nD.out) dC.out) j5);clear m0 j5;go_wp2;all_goals (try (exfalso;go_light;simp_all;done));rw[<-LA];go_ret;exact ⟨⟨_,rfl,118,[.pointer (some ⟨w6.heap.size,0,none⟩),.pointer (some ⟨w.heap.size+1+1+1+1,0,none⟩)],rfl,(λargs W=>by go_simp),λW hW Ar nr cr row hrow hfit=>by
   have h1:=BJ W _ _ _ A1 n1 c1 cols A n c x.cols (HOW.out.below (aa MU.out hW)) hb2 hb0 Ar nr cr row hrow w6.heap.size b n3 (aj hW (lt_of_cell Eg.out) Eg.out) _ (HS.out.below (aa MU.out hW));obtain ⟨p1,p2,p3⟩:=mR JP.out HI.out hfit;rw[Cb JP.out HI.out Nj.out p2 p3]at h1;rw[<-GJ.out,(HV.out row).1 (by simpa using q0)];exact h1⟩,jr.out⟩
 ·go_enter Tryz.func85,Tryz.ntmps85;have HN:=hide hn;clear hn;have gF:=hide hn';clear hn';have HQ:=hide hq;clear hq;have HW:=hide hw;clear hw;have HC:=hide hc;clear hc;have HO:=hide ho;clear ho;have HZ:=hide hz;clear hz;have HR:=hide hr;clear hr;have xR:=hide hor;clear hor;go_wp2_with fail;obtain ⟨W3,hW3,kI,jf,o12⟩:=jK w x A n c A' n' c' bX n'' c'' rn A1 n1 c1 Ak nk ck A3 n3 c3 on A2 n2 c2 Al nl cl A4 n4 c4;rw[<-hW3];clear hW3;have QZ:=hide jf;clear jf;obtain ⟨W4,qA⟩: ∃W,W=W3.alloc (.cells #[.slice A5 n5 c5] 90):=⟨_,rfl⟩;obtain ⟨j6,qi,z0⟩:=gJ (b:=w.heap.size+1+1+1) qA (by rw[kI.out]);rw[<-qA];clear qA;have Ae:=hide j6;clear j6;have L4:=lt_of_cell z0;obtain ⟨FV,sW⟩: ∃v,v=Value.func (.func 116) #[] #[.pointer (some ⟨w.heap.size+1,0,none⟩),.pointer (some ⟨w.heap.size,0,none⟩)]:=⟨_,rfl⟩;rw[<-sW];have Hf:=hide sW;clear sW;obtain ⟨W5,nZ⟩: ∃W,W=W4.alloc (.cells #[FV] 97):=⟨_,rfl⟩;obtain ⟨jg,yf,p0⟩:=gJ (b:=w.heap.size+1+1+1+1) nZ (by rw[qi.out,kI.out]);rw[<-nZ];clear nZ;have RS:=kM z0;have oQ:=hide jg;clear jg;have L5:=lt_of_cell p0;have jr:=hide (aa (aa QZ.out Ae.out) oQ.out);have xM:=hide (aa Ae.out oQ.out);obtain ⟨⟨LR,g0,g1,g2,g3,g4,g5,g6,g7,g8,g9,g10,g11,g12,g13⟩,⟨L2,r0,r1,r2,r3⟩,L3,s0,s1,s2,s3⟩:=o12.out _ xM.out;obtain ⟨L4,z0⟩:=RS.out _ oQ.out;go_wp2;all_goals (try (exfalso;go_light;simp_all;done));go_ret;exact ⟨⟨_,rfl,126,[],rfl,(λargs W=>by go_simp),λW hW Ar nr cr row hrow hfit=>by
   have h1:=F8 W (.slice Ar nr cr);rw[<-GJ.out,(HV.out row).2.2.2.2.2 (by simpa using q0) (by simpa using q1) (by simpa using q2) (by simpa using q3) (by simpa using q4)];exact h1⟩,jr.out⟩
end Go.Proofs.YtopjjlmfilgngaaGreatDoor
