/-
  warehouseref28.violates. (Printed by gen_vior.py.) warehouseref28.Violations. (Printed by gen_vior2.py.)
-/
import Derived.Test.YtggejcekmehocaaGreatDoorChkU
import Derived.Test.YtggejcekmehocaaGreatDoorGaw
import Derived.Test.YtggejcekmehocaaGreatDoorGai
import Derived.Test.YtggejcekmehocaaGreatDoorGal
import Derived.Test.YtggejcekmehocaaGreatDoorGan
import Derived.Test.YtggejcekmehocaaGreatDoorGay
namespace Go.Proofs.YtggejcekmehocaaGreatDoor
set_option maxHeartbeats 4000000
set_option maxRecDepth 100000
open Go.RowKit Go.Maps
set_option linter.unusedSimpArgs false
set_option linter.unusedVariables false
theorem Ef (cols:List Col)(names:List ByteArray)(l:List Ent)(y:Ent)(v:List Val)(r:Bool)(h:r=true↔aN cols names y.row=v):sQ cols names (l++[y]) v=sQ cols names l v++(if r=true then [y] else []):=by
 rw[sQ,sQ,List.filter_append]
 congr 1
 by_cases hr:r=true
 ·rw[if_pos hr,List.filter_cons_of_pos (by exact kg.2 (h.1 hr)),List.filter_nil]
 ·rw[if_neg hr,List.filter_cons_of_neg (by intro q;exact hr (h.2 (kg.1 q))),List.filter_nil]
theorem Rh {cols:List Col}{names:List ByteArray}{rows:List Ent}(h: ∀x∈rows,0<x.count/\x.count<=65536)(hl:rows.length<=4096)(v:List Val):0<=aH (sQ cols names rows v)/\aH (sQ cols names rows v)<=268435456:=by
 have h1:=Dm (l:=sQ cols names rows v) (C:=65536) λx hx=>by
  have:=h x (List.mem_filter.1 (show x∈rows.filter _ from hx)).1
  omega
 have h2:(sQ cols names rows v).length<=rows.length:=List.length_filter_le _ _
 omega
section
variable (w:World)(x:Chk)(A:Option Addr)(n c:Nat)(hn:In w A n c x.cols)(A':Option Addr)(n' c':Nat)(hn':In w A' n' c' x.ocols)(aY:Option Addr)(n'' c'':Nat)(hq:In w aY n'' c'' x.cond)(rn:ByteArray)(A1:Option Addr)(n1 c1:Nat)(cols:List Col)(hc:In w A1 n1 c1 cols)(Ak:Option Addr)(nk ck:Nat)(A3:Option Addr)(n3 c3:Nat)(rows:List Ent)(hr:In w A3 n3 c3 rows)(on:ByteArray)(A2:Option Addr)(n2 c2:Nat)(ocols:List Col)(ho:In w A2 n2 c2 ocols)(Al:Option Addr)(nl cl:Nat)(A4:Option Addr)(n4 c4:Nat)(orows:List Ent)(hor:In w A4 n4 c4 orows)(A5:Option Addr)(n5 c5:Nat)(zs:List Zone)(hz:In w A5 n5 c5 zs)(hb0:n<=4096)
include w x A n c hn A' n' c' hn' aY n'' c'' hq rn A1 n1 c1 cols hc Ak nk ck A3 n3 c3 rows hr on A2 n2 c2 ocols ho Al nl cl A4 n4 c4 orows hor A5 n5 c5 zs hz hb0
theorem AY (hb1:n'<=4096)(hb2:n1<=4096)(hb3:n2<=4096)(Ar:Option Addr)(nr cr:Nat)(row:List Val)(hrow:In w Ar nr cr row)(hE:aI x cols ocols rows orows zs=0)(q0:(x.kind==0)=true):
  Calls Tryz.prog 52 #[.agg (ax x A n c A' n' c' aY n'' c'').toArray,.agg #[.string rn,.slice A1 n1 c1,.slice Ak nk ck,.slice A3 n3 c3],.agg #[.string on,.slice A2 n2 c2,.slice Al nl cl,.slice A4 n4 c4],.slice A5 n5 c5,.slice Ar nr cr] w
   λe w'=>e=.returned (.bool (cO x cols ocols rows orows zs row))/\Below w.heap.size w w':=by
 obtain ⟨hE1,hE2,kM⟩:=dR hE
 obtain ⟨⟨k0,k6⟩,hcz,dN⟩:=fw hE1
 obtain ⟨hbz,htz,hrz⟩:=bA hE2
 obtain ⟨hrl,hrc⟩:=eQ hbz htz
 have hrl':n3<=4096:=by rw[<-hr.len];exact hrl
 have Kw:=hide hrl
 have HV:=hide (iF (x:=x) (rc:=cols) (oc:=ocols) (rr:=rows) (orr:=orows) (zs:=zs) (row:=row))
 obtain ⟨R,hR⟩: ∃V,cO x cols ocols rows orows zs row=V:=⟨_,rfl⟩
 rw[hR]at HV
 rw[hR]
 have Kk:=hide kM
 have mG:=hide dN
 have Ca:=hide hrc
 have xR:=hide hr.len
 have RX:=hide hor.len
 have xC:Hid (∀W,In W A1 n1 c1 cols->In W A n c x.cols->In W Ar nr cr row->Calls Tryz.prog 82 #[.slice A1 n1 c1,.slice A n c,.slice Ar nr cr] W
   λe w'=>(∃A' m c',e=.returned (.slice A' m c')/\In w' A' m c' (aN cols x.cols row))/\Below W.heap.size W w'):=hide λW h1 h2 h3=>
  (iT W A1 n1 c1 cols h1 A n c x.cols h2 Ar nr cr row h3 (by omega) hb0).mono (by rintro e w1 ⟨⟨A',m,c',rfl,h4,h5,_⟩,hb⟩;exact ⟨⟨A',m,c',rfl,gD h4 h5⟩,hb⟩)
 have J8:=hide (show (bD cols x.cols).1=0->(aN cols x.cols row).length=x.cols.length from λh=>by rw[aN,jD,(fC h).1,List.length_map])
 obtain ⟨PV,sS⟩: ∃p,aN cols x.cols row=p:=⟨_,rfl⟩
 rw[sS]at HV xC J8
 clear sS hE hE1 hE2 kM hcz dN hbz htz hrz hrl hrc hR k0 k6
 simp only[ax]
 go_enter Tryz.func52,Tryz.ntmps52
 have HN:=hide hn
 clear hn
 have eT:=hide hn'
 clear hn'
 have HQ:=hide hq
 clear hq
 have HC:=hide hc
 clear hc
 have HO:=hide ho
 clear ho
 have HZ:=hide hz
 clear hz
 have HR:=hide hr
 clear hr
 have kr:=hide hor
 clear hor
 have qw:=hide hrow
 clear hrow
 go_wp2_with fail
 obtain ⟨W3,hW3,d9,bR,o1⟩:=dm w x A n c A' n' c' aY n'' c'' rn A1 n1 c1 Ak nk ck A3 n3 c3 on A2 n2 c2 Al nl cl A4 n4 c4
 rw[<-hW3]
 clear hW3
 have fK:=hide bR
 clear bR
 obtain ⟨⟨LR,g0,g1,g2,g3,g4,g5,g6,g7,g8,g9,g10,g11,g12,g13⟩,⟨L2,r0,r1,r2,r3⟩,L3,s0,s1,s2,s3⟩:=o1.out _ (Below.refl _ _)
 go_wp2_with fail
 refine (xC.out _ (HC.out.below fK.out) (HN.out.below fK.out) (qw.out.below fK.out)).mono ?_
 rintro e w3 ⟨⟨Ap,mp,cp,rfl,Eo⟩,hb3⟩
 have jH:=hide hb3
 clear hb3
 have HP:=hide Eo
 clear Eo
 obtain ⟨W5,rfl⟩: ∃W,W=w3:=⟨_,rfl⟩
 have h63:=HR.out.le
 obtain rfl:R=decide (1<aH (sQ cols x.cols rows PV)):=HV.out.1 (by simpa using q0)
 clear HV
 obtain ⟨⟨LR,g0,g1,g2,g3,g4,g5,g6,g7,g8,g9,g10,g11,g12,g13⟩,⟨L2,r0,r1,r2,r3⟩,L3,s0,s1,s2,s3⟩:=o1.out _ jH.out
 go_wp2
 go_loopw [12,13] (λm i wr=> ∃k:Nat,k<=n3/\i=.int .i64 k/\m=.int .i64 (aH (sQ cols x.cols (rows.take k) PV))/\Below W5.heap.size W5 wr) (λ_ i _=>n3-(RowKit.intOf i).toNat)
 case atStart=>exact ⟨0,Nat.zero_le _,rfl,by simp[sQ,aH],Below.refl _ _⟩
 case round=>
  obtain ⟨k,hk,rfl,rfl,hb⟩:=hrel
  have nZ:=hide hb
  clear hb
  by_cases hlt:k<n3
  ·have xA:=hide (aa (aa fK.out jH.out) nZ.out)
   obtain ⟨b,off,y,rfl,hBb,HX,Ax,An,Ac,e0,e1,e2,e3⟩:=(HR.out.below xA.out).ent hlt
   have k0:(0:Int)<=(k:Int):=by omega
   have k1:(k:Int)<(n3:Int):=by omega
   have HI:=hide e2
   have E0:=hide e0
   have E1:=hide e1
   have yj:=hide hBb
   have Py:=hide (aa jH.out nZ.out)
   obtain ⟨⟨LR,g0,g1,g2,g3,g4,g5,g6,g7,g8,g9,g10,g11,g12,g13⟩,⟨L2,r0,r1,r2,r3⟩,L3,s0,s1,s2,s3⟩:=o1.out _ Py.out
   have G3:=hide g3
   have R1:=hide r1
   have R3:=hide r3
   have l9:=hide nZ.out
   have Zq:=hide (Ca.out y (aM HX.out))
   have Pz:=hide (Rh (cols:=cols) (names:=x.cols) (rows:=rows.take k) (λz hz=>Ca.out z (List.mem_of_mem_take hz)) (by rw[List.length_take];omega) PV)
   clear e1 e2
   go_wp2
   go_region_held3 (λV=>V.cell? ⟨w.heap.size+1,1,none⟩=some (.slice A1 n1 c1)/\V.cell? ⟨w.heap.size,3,none⟩=some (.slice A n c)/\V.cell? ⟨w.heap.size+1,3,none⟩=some (.slice (some ⟨b,off,none⟩) n3 c3)/\V.cell? ⟨b,off+k*2,none⟩=some (.slice Ax An Ac))
    (first|exact ⟨ah ik.out L2 R1.out,ah ik.out LR G3.out,ah ik.out L2 R3.out,ah ik.out yj.out E0.out⟩|exact ⟨ah jE.out L2 R1.out,ah jE.out LR G3.out,ah jE.out L2 R3.out,ah jE.out yj.out E0.out⟩|exact ⟨r1,g3,r3,e0⟩|go_keep)
    (first|(go_at_call 82;refine (iT _ A1 n1 c1 cols (by exact (HC.out.below xA.out).below (Below.refl _ _).drew) A n c x.cols (by exact (HN.out.below xA.out).below (Below.refl _ _).drew) Ax An Ac y.row (by exact HI.out.below (Below.refl _ _).drew) (by omega) hb0).mono ?_;rintro e w6 ⟨⟨A6,m6,c6,rfl,P8,Jm,_⟩,hb6⟩;have Hf:=hide (gD P8 Jm);have jE:=hide (ag hb6);clear P8 Jm hb6;have ED:True:=trivial)|(clear ED;go_at_call 44;refine (rQ _ A6 Ap m6 mp c6 cp _ PV (by exact Hf.out) (by exact (HP.out.below nZ.out).below jE.out)).mono ?_;rintro e w7 ⟨⟨r,rfl,UH⟩,dC⟩;have Wz:=hide UH;have ik:=hide (aa jE.out dC);clear UH dC;have Nq:True:=trivial))
   have dC:=ik.out
   have HYI:=hide HI.out
   have Tv:=hide dC
   have mf:=hide (aa nZ.out dC)
   clear dC
   have Du:=hide mf.out
   have e0:=ah Tv.out yj.out E0.out
   have e1:=ah Tv.out yj.out E1.out
   have HG:=hide (Ef cols x.cols (rows.take k) y PV r Wz.out)
   rw[<-bP HX.out]at HG
   obtain ⟨F,hF⟩: ∃F,aH (sQ cols x.cols (rows.take k) PV)=F:=⟨_,rfl⟩
   have hbd:=Pz.out
   have Sb:=Zq.out
   rw[hF]at hbd
   have HF:=hide hF
   rw[hF]
   clear hF
   cases r
   ·have HN:Hid (F=aH (sQ cols x.cols (rows.take (k+1)) PV)):=hide (by rw[HG.out,<-HF.out];simp)
    have Sn:=hide (aa jH.out mf.out)
    obtain ⟨⟨LR,g0,g1,g2,g3,g4,g5,g6,g7,g8,g9,g10,g11,g12,g13⟩,⟨L2,r0,r1,r2,r3⟩,L3,s0,s1,s2,s3⟩:=o1.out _ Sn.out
    go_wp2
    go_roundw
    case rel=>exact ⟨k+1,by omega,by go_num,by rw[<-HN.out],Du.out⟩
    case measure=>simp[RowKit.intOf];omega
   ·have HN:Hid (F+y.count=aH (sQ cols x.cols (rows.take (k+1)) PV)):=hide (by rw[HG.out,lK,<-HF.out];simp[aH])
    have hwr:IntKind.i64.wrap (F+y.count)=F+y.count:=IntWalk.i64_in _ (by omega)
    have FD:=hide (aa jH.out mf.out)
    obtain ⟨⟨LR,g0,g1,g2,g3,g4,g5,g6,g7,g8,g9,g10,g11,g12,g13⟩,⟨L2,r0,r1,r2,r3⟩,L3,s0,s1,s2,s3⟩:=o1.out _ FD.out
    go_wp2
    go_roundw
    case rel=>exact ⟨k+1,by omega,by go_num,by rw[<-HN.out],Du.out⟩
    case measure=>simp[RowKit.intOf];omega
  ·have HT:Hid (rows.take k=rows):=hide (List.take_of_length_le (by rw[xR.out];omega))
   rw[HT.out]
   have jk:=hide (aa (aa fK.out jH.out) nZ.out)
   have Ir:=hide (aa jH.out nZ.out)
   obtain ⟨⟨LR,g0,g1,g2,g3,g4,g5,g6,g7,g8,g9,g10,g11,g12,g13⟩,⟨L2,r0,r1,r2,r3⟩,L3,s0,s1,s2,s3⟩:=o1.out _ Ir.out
   go_wp2
   go_ret
   exact ⟨rfl,jk.out⟩
theorem AZ (hb1:n'<=4096)(hb2:n1<=4096)(hb3:n2<=4096)(Ar:Option Addr)(nr cr:Nat)(row:List Val)(hrow:In w Ar nr cr row)(hE:aI x cols ocols rows orows zs=0)(q0:(x.kind==0)=false)(q1:(x.kind==1)=true):
  Calls Tryz.prog 52 #[.agg (ax x A n c A' n' c' aY n'' c'').toArray,.agg #[.string rn,.slice A1 n1 c1,.slice Ak nk ck,.slice A3 n3 c3],.agg #[.string on,.slice A2 n2 c2,.slice Al nl cl,.slice A4 n4 c4],.slice A5 n5 c5,.slice Ar nr cr] w
   λe w'=>e=.returned (.bool (cO x cols ocols rows orows zs row))/\Below w.heap.size w w':=by
 obtain ⟨hE1,hE2,kM⟩:=dR hE
 obtain ⟨⟨k0,k6⟩,hcz,dN⟩:=fw hE1
 obtain ⟨hbz,htz,hrz⟩:=bA hE2
 obtain ⟨hrl,hrc⟩:=eQ hbz htz
 have hrl':n3<=4096:=by rw[<-hr.len];exact hrl
 have Kw:=hide hrl
 have HV:=hide (iF (x:=x) (rc:=cols) (oc:=ocols) (rr:=rows) (orr:=orows) (zs:=zs) (row:=row))
 obtain ⟨R,hR⟩: ∃V,cO x cols ocols rows orows zs row=V:=⟨_,rfl⟩
 rw[hR]at HV
 rw[hR]
 have Kk:=hide kM
 have mG:=hide dN
 have Ca:=hide hrc
 have xR:=hide hr.len
 have RX:=hide hor.len
 have xC:Hid (∀W,In W A1 n1 c1 cols->In W A n c x.cols->In W Ar nr cr row->Calls Tryz.prog 82 #[.slice A1 n1 c1,.slice A n c,.slice Ar nr cr] W
   λe w'=>(∃A' m c',e=.returned (.slice A' m c')/\In w' A' m c' (aN cols x.cols row))/\Below W.heap.size W w'):=hide λW h1 h2 h3=>
  (iT W A1 n1 c1 cols h1 A n c x.cols h2 Ar nr cr row h3 (by omega) hb0).mono (by rintro e w1 ⟨⟨A',m,c',rfl,h4,h5,_⟩,hb⟩;exact ⟨⟨A',m,c',rfl,gD h4 h5⟩,hb⟩)
 have J8:=hide (show (bD cols x.cols).1=0->(aN cols x.cols row).length=x.cols.length from λh=>by rw[aN,jD,(fC h).1,List.length_map])
 obtain ⟨PV,sS⟩: ∃p,aN cols x.cols row=p:=⟨_,rfl⟩
 rw[sS]at HV xC J8
 clear sS hE hE1 hE2 kM hcz dN hbz htz hrz hrl hrc hR k0 k6
 simp only[ax]
 go_enter Tryz.func52,Tryz.ntmps52
 have HN:=hide hn
 clear hn
 have eT:=hide hn'
 clear hn'
 have HQ:=hide hq
 clear hq
 have HC:=hide hc
 clear hc
 have HO:=hide ho
 clear ho
 have HZ:=hide hz
 clear hz
 have HR:=hide hr
 clear hr
 have kr:=hide hor
 clear hor
 have qw:=hide hrow
 clear hrow
 go_wp2_with fail
 obtain ⟨W3,hW3,d9,bR,JC⟩:=dm w x A n c A' n' c' aY n'' c'' rn A1 n1 c1 Ak nk ck A3 n3 c3 on A2 n2 c2 Al nl cl A4 n4 c4
 rw[<-hW3]
 clear hW3
 have ut:=hide bR
 clear bR
 obtain ⟨⟨LR,g0,g1,g2,g3,g4,g5,g6,g7,g8,g9,g10,g11,g12,g13⟩,⟨L2,r0,r1,r2,r3⟩,L3,s0,s1,s2,s3⟩:=JC.out _ (Below.refl _ _)
 go_wp2_with fail
 refine (xC.out _ (HC.out.below ut.out) (HN.out.below ut.out) (qw.out.below ut.out)).mono ?_
 rintro e X8 ⟨⟨Ap,mp,cp,rfl,Eo⟩,Au⟩
 have kL:=hide Au
 clear Au
 have HP:=hide Eo
 clear Eo
 obtain rfl:R=kZ PV:=HV.out.2.1 (by simpa using q1)
 clear HV
 obtain ⟨⟨LR,g0,g1,g2,g3,g4,g5,g6,g7,g8,g9,g10,g11,g12,g13⟩,⟨L2,r0,r1,r2,r3⟩,L3,s0,s1,s2,s3⟩:=JC.out _ kL.out
 go_wp2_with fail
 refine (wP _ Ap mp cp PV HP.out).mono ?_
 rintro e w6 ⟨rfl,rfl⟩
 go_wp2
 all_goals (try (exfalso;go_light;simp_all;done))
 go_ret
 exact ⟨rfl,(aa ut.out kL.out)⟩
theorem Ba (hb1:n'<=4096)(hb2:n1<=4096)(hb3:n2<=4096)(Ar:Option Addr)(nr cr:Nat)(row:List Val)(hrow:In w Ar nr cr row)(hE:aI x cols ocols rows orows zs=0)(q0:(x.kind==0)=false)(q1:(x.kind==1)=false)(q2:(x.kind==2)=true):
  Calls Tryz.prog 52 #[.agg (ax x A n c A' n' c' aY n'' c'').toArray,.agg #[.string rn,.slice A1 n1 c1,.slice Ak nk ck,.slice A3 n3 c3],.agg #[.string on,.slice A2 n2 c2,.slice Al nl cl,.slice A4 n4 c4],.slice A5 n5 c5,.slice Ar nr cr] w
   λe w'=>e=.returned (.bool (cO x cols ocols rows orows zs row))/\Below w.heap.size w w':=by
 obtain ⟨hE1,hE2,kM⟩:=dR hE
 obtain ⟨⟨k0,k6⟩,hcz,dN⟩:=fw hE1
 obtain ⟨hbz,htz,hrz⟩:=bA hE2
 obtain ⟨hrl,hrc⟩:=eQ hbz htz
 have hrl':n3<=4096:=by rw[<-hr.len];exact hrl
 have Kw:=hide hrl
 have HV:=hide (iF (x:=x) (rc:=cols) (oc:=ocols) (rr:=rows) (orr:=orows) (zs:=zs) (row:=row))
 obtain ⟨R,hR⟩: ∃V,cO x cols ocols rows orows zs row=V:=⟨_,rfl⟩
 rw[hR]at HV
 rw[hR]
 have Kk:=hide kM
 have mG:=hide dN
 have Ca:=hide hrc
 have xR:=hide hr.len
 have RX:=hide hor.len
 have xC:Hid (∀W,In W A1 n1 c1 cols->In W A n c x.cols->In W Ar nr cr row->Calls Tryz.prog 82 #[.slice A1 n1 c1,.slice A n c,.slice Ar nr cr] W
   λe w'=>(∃A' m c',e=.returned (.slice A' m c')/\In w' A' m c' (aN cols x.cols row))/\Below W.heap.size W w'):=hide λW h1 h2 h3=>
  (iT W A1 n1 c1 cols h1 A n c x.cols h2 Ar nr cr row h3 (by omega) hb0).mono (by rintro e w1 ⟨⟨A',m,c',rfl,h4,h5,_⟩,hb⟩;exact ⟨⟨A',m,c',rfl,gD h4 h5⟩,hb⟩)
 have J8:=hide (show (bD cols x.cols).1=0->(aN cols x.cols row).length=x.cols.length from λh=>by rw[aN,jD,(fC h).1,List.length_map])
 obtain ⟨PV,sS⟩: ∃p,aN cols x.cols row=p:=⟨_,rfl⟩
 rw[sS]at HV xC J8
 clear sS hE hE1 hE2 kM hcz dN hbz htz hrz hrl hrc hR k0 k6
 simp only[ax]
 go_enter Tryz.func52,Tryz.ntmps52
 have HN:=hide hn
 clear hn
 have eT:=hide hn'
 clear hn'
 have HQ:=hide hq
 clear hq
 have HC:=hide hc
 clear hc
 have HO:=hide ho
 clear ho
 have HZ:=hide hz
 clear hz
 have HR:=hide hr
 clear hr
 have kr:=hide hor
 clear hor
 have qw:=hide hrow
 clear hrow
 go_wp2_with fail
 obtain ⟨W3,hW3,d9,bR,o16⟩:=dm w x A n c A' n' c' aY n'' c'' rn A1 n1 c1 Ak nk ck A3 n3 c3 on A2 n2 c2 Al nl cl A4 n4 c4
 rw[<-hW3]
 clear hW3
 have mY:=hide bR
 clear bR
 obtain ⟨⟨LR,g0,g1,g2,g3,g4,g5,g6,g7,g8,g9,g10,g11,g12,g13⟩,⟨L2,r0,r1,r2,r3⟩,L3,s0,s1,s2,s3⟩:=o16.out _ (Below.refl _ _)
 go_wp2_with fail
 refine (xC.out _ (HC.out.below mY.out) (HN.out.below mY.out) (qw.out.below mY.out)).mono ?_
 rintro e w18 ⟨⟨Ap,mp,cp,rfl,Eo⟩,Gf⟩
 have gp:=hide Gf
 clear Gf
 have HP:=hide Eo
 clear Eo
 obtain ⟨hi,hpos,_,_⟩:=mG.out (by have h9:x.kind=2:=(by simpa using q2);rw[iE,h9];rfl)
 have hpl:=J8.out hi
 obtain ⟨V,PT,rfl⟩: ∃v l,PV=v :: l:=by
  cases PV with
  |nil=>simp at hpl;omega
  |cons v l=>exact ⟨v,l,rfl⟩
 obtain ⟨vk,vn,vs⟩:=V
 have HRR:Hid (R=(vk != 0&&(decide (vn<x.low) || decide (x.high<vn)))):=hide (HV.out.2.2.1 (by simpa using q2))
 have hm:0<mp:=by rw[<-HP.out.len];simp
 obtain ⟨b,off,y,rfl,hBb,HX,x0,x1,x2,x3⟩:=HP.out.val hm
 have hx:=HX.out
 rw[List.drop_zero]at hx
 injection hx with hx1 hx2
 subst hx1
 have z0:(0:Int)<(mp:Int):=by omega
 simp only[Nat.zero_mul,Nat.add_zero]at x0 x1 x2
 have jk:=hide (aa mY.out gp.out)
 clear HV hi hpos hpl hx2 HX
 by_cases k0:vk=0
 ·subst k0
  obtain ⟨⟨LR,g0,g1,g2,g3,g4,g5,g6,g7,g8,g9,g10,g11,g12,g13⟩,⟨L2,r0,r1,r2,r3⟩,L3,s0,s1,s2,s3⟩:=o16.out _ gp.out
  go_wp2
  go_quiet (fail)
  go_wp2
  all_goals (try (exfalso;go_light;simp_all;done))
  go_ret
  exact ⟨ay (by rw[HRR.out];simp),below_drewN jk.out _⟩
 ·have k1:(vk != 0)=true:=by simpa using k0
  by_cases k2:vn<x.low
  ·have k3:decide (vn<x.low)=true:=by simpa using k2
   obtain ⟨⟨LR,g0,g1,g2,g3,g4,g5,g6,g7,g8,g9,g10,g11,g12,g13⟩,⟨L2,r0,r1,r2,r3⟩,L3,s0,s1,s2,s3⟩:=o16.out _ gp.out
   go_wp2
   go_quiet (fail)
   go_wp2
   all_goals (try (exfalso;go_light;simp_all;done))
   go_ret
   exact ⟨ay (by rw[HRR.out,k1,k3];rfl),below_drewN jk.out _⟩
  ·have k3:decide (vn<x.low)=false:=by simpa using k2
   obtain ⟨⟨LR,g0,g1,g2,g3,g4,g5,g6,g7,g8,g9,g10,g11,g12,g13⟩,⟨L2,r0,r1,r2,r3⟩,L3,s0,s1,s2,s3⟩:=o16.out _ gp.out
   go_wp2
   go_quiet (fail)
   go_wp2
   all_goals (try (exfalso;go_light;simp_all;done))
   go_ret
   exact ⟨ay (by rw[HRR.out,k1,k3];simp),below_drewN jk.out _⟩
theorem Bb (hb1:n'<=4096)(hb2:n1<=4096)(hb3:n2<=4096)(Ar:Option Addr)(nr cr:Nat)(row:List Val)(hrow:In w Ar nr cr row)(hE:aI x cols ocols rows orows zs=0)(q0:(x.kind==0)=false)(q1:(x.kind==1)=false)(q2:(x.kind==2)=false)(q3:(x.kind==3)=true):
  Calls Tryz.prog 52 #[.agg (ax x A n c A' n' c' aY n'' c'').toArray,.agg #[.string rn,.slice A1 n1 c1,.slice Ak nk ck,.slice A3 n3 c3],.agg #[.string on,.slice A2 n2 c2,.slice Al nl cl,.slice A4 n4 c4],.slice A5 n5 c5,.slice Ar nr cr] w
   λe w'=>e=.returned (.bool (cO x cols ocols rows orows zs row))/\Below w.heap.size w w':=by
 obtain ⟨hE1,hE2,kM⟩:=dR hE
 obtain ⟨⟨k0,k6⟩,hcz,dN⟩:=fw hE1
 obtain ⟨hbz,htz,hrz⟩:=bA hE2
 obtain ⟨hrl,hrc⟩:=eQ hbz htz
 have hrl':n3<=4096:=by rw[<-hr.len];exact hrl
 have Kw:=hide hrl
 have HV:=hide (iF (x:=x) (rc:=cols) (oc:=ocols) (rr:=rows) (orr:=orows) (zs:=zs) (row:=row))
 obtain ⟨R,hR⟩: ∃V,cO x cols ocols rows orows zs row=V:=⟨_,rfl⟩
 rw[hR]at HV
 rw[hR]
 have Kk:=hide kM
 have mG:=hide dN
 have Ca:=hide hrc
 have xR:=hide hr.len
 have RX:=hide hor.len
 have xC:Hid (∀W,In W A1 n1 c1 cols->In W A n c x.cols->In W Ar nr cr row->Calls Tryz.prog 82 #[.slice A1 n1 c1,.slice A n c,.slice Ar nr cr] W
   λe w'=>(∃A' m c',e=.returned (.slice A' m c')/\In w' A' m c' (aN cols x.cols row))/\Below W.heap.size W w'):=hide λW h1 h2 h3=>
  (iT W A1 n1 c1 cols h1 A n c x.cols h2 Ar nr cr row h3 (by omega) hb0).mono (by rintro e w1 ⟨⟨A',m,c',rfl,h4,h5,_⟩,hb⟩;exact ⟨⟨A',m,c',rfl,gD h4 h5⟩,hb⟩)
 have J8:=hide (show (bD cols x.cols).1=0->(aN cols x.cols row).length=x.cols.length from λh=>by rw[aN,jD,(fC h).1,List.length_map])
 obtain ⟨PV,sS⟩: ∃p,aN cols x.cols row=p:=⟨_,rfl⟩
 rw[sS]at HV xC J8
 clear sS hE hE1 hE2 kM hcz dN hbz htz hrz hrl hrc hR k0 k6
 simp only[ax]
 go_enter Tryz.func52,Tryz.ntmps52
 have HN:=hide hn
 clear hn
 have eT:=hide hn'
 clear hn'
 have HQ:=hide hq
 clear hq
 have HC:=hide hc
 clear hc
 have HO:=hide ho
 clear ho
 have HZ:=hide hz
 clear hz
 have HR:=hide hr
 clear hr
 have kr:=hide hor
 clear hor
 have qw:=hide hrow
 clear hrow
 go_wp2_with fail
 obtain ⟨W3,hW3,d9,bR,Sd⟩:=dm w x A n c A' n' c' aY n'' c'' rn A1 n1 c1 Ak nk ck A3 n3 c3 on A2 n2 c2 Al nl cl A4 n4 c4
 rw[<-hW3]
 clear hW3
 have sH:=hide bR
 clear bR
 obtain ⟨⟨LR,g0,g1,g2,g3,g4,g5,g6,g7,g8,g9,g10,g11,g12,g13⟩,⟨L2,r0,r1,r2,r3⟩,L3,s0,s1,s2,s3⟩:=Sd.out _ (Below.refl _ _)
 go_wp2_with fail
 refine (xC.out _ (HC.out.below sH.out) (HN.out.below sH.out) (qw.out.below sH.out)).mono ?_
 rintro e X9 ⟨⟨Ap,mp,cp,rfl,Eo⟩,El⟩
 have ma:=hide El
 clear El
 have HP:=hide Eo
 clear Eo
 obtain ⟨W5,rfl⟩: ∃W,W=X9:=⟨_,rfl⟩
 have h63:=kr.out.le
 have hrr:=HV.out.2.2.2.1 (by simpa using q3)
 clear HV
 obtain ⟨NB,XC⟩: ∃NB,kZ PV=NB:=⟨_,rfl⟩
 have Wv:=hide XC
 rw[XC]at hrr
 clear XC
 obtain ⟨G,hG⟩: ∃G,sQ ocols x.ocols orows PV=G:=⟨_,rfl⟩
 have HG:=hide hG
 rw[hG]at hrr
 have HRR:=hide hrr
 clear hG hrr
 obtain ⟨⟨LR,g0,g1,g2,g3,g4,g5,g6,g7,g8,g9,g10,g11,g12,g13⟩,⟨L2,r0,r1,r2,r3⟩,L3,s0,s1,s2,s3⟩:=Sd.out _ ma.out
 go_wp2
 go_loopw [14] (λi wr=> ∃k:Nat,k<=n4/\i=.int .i64 k/\sQ ocols x.ocols (orows.take k) PV=[]/\Below W5.heap.size W5 wr) (λi _=>n4-(RowKit.intOf i).toNat)
 case atStart=>exact ⟨0,Nat.zero_le _,rfl,by simp[sQ],Below.refl _ _⟩
 case round=>
  obtain ⟨k,hk,rfl,hgr,hb⟩:=hrel
  have Yg:=hide hgr
  clear hgr
  have il:=hide hb
  clear hb
  by_cases hlt:k<n4
  ·have nO:=hide (aa (aa sH.out ma.out) il.out)
   obtain ⟨b,off,y,rfl,hBb,HX,Ax,An,Ac,e0,e1,e2,e3⟩:=(kr.out.below nO.out).ent hlt
   have k0:(0:Int)<=(k:Int):=by omega
   have k1:(k:Int)<(n4:Int):=by omega
   have HI:=hide e2
   have E0:=hide e0
   have yj:=hide hBb
   have BO:=hide (aa ma.out il.out)
   obtain ⟨⟨LR,g0,g1,g2,g3,g4,g5,g6,g7,g8,g9,g10,g11,g12,g13⟩,⟨L2,r0,r1,r2,r3⟩,L3,s0,s1,s2,s3⟩:=Sd.out _ BO.out
   have G3:=hide g5
   have R1:=hide s1
   have R3:=hide s3
   clear e1 e2
   go_wp2
   go_region_held3 (λV=>V.cell? ⟨w.heap.size+1+1,1,none⟩=some (.slice A2 n2 c2)/\V.cell? ⟨w.heap.size,5,none⟩=some (.slice A' n' c')/\V.cell? ⟨w.heap.size+1+1,3,none⟩=some (.slice (some ⟨b,off,none⟩) n4 c4)/\V.cell? ⟨b,off+k*2,none⟩=some (.slice Ax An Ac))
    (first|exact ⟨ah ik.out L3 R1.out,ah ik.out LR G3.out,ah ik.out L3 R3.out,ah ik.out yj.out E0.out⟩|exact ⟨ah jE.out L3 R1.out,ah jE.out LR G3.out,ah jE.out L3 R3.out,ah jE.out yj.out E0.out⟩|exact ⟨s1,g5,s3,e0⟩|go_keep)
    (first|(go_at_call 82;refine (iT _ A2 n2 c2 ocols (by exact (HO.out.below nO.out).below (Below.refl _ _).drew) A' n' c' x.ocols (by exact (eT.out.below nO.out).below (Below.refl _ _).drew) Ax An Ac y.row (by exact HI.out.below (Below.refl _ _).drew) (by omega) hb1).mono ?_;rintro e w6 ⟨⟨A6,m6,c6,rfl,P8,Jm,_⟩,hb6⟩;have Hf:=hide (gD P8 Jm);have jE:=hide (ag hb6);clear P8 Jm hb6;have ED:True:=trivial)|(clear ED;go_at_call 44;refine (rQ _ A6 Ap m6 mp c6 cp _ PV (by exact Hf.out) (by exact (HP.out.below il.out).below jE.out)).mono ?_;rintro e w7 ⟨⟨r,rfl,UH⟩,dC⟩;have Wz:=hide UH;have ik:=hide (aa jE.out dC);clear UH dC;have Nq:True:=trivial))
   have dC:=ik.out
   have nQ:=hide (aa il.out dC)
   clear dC
   have Du:=hide nQ.out
   have jk:=hide (aa (aa sH.out ma.out) nQ.out)
   have Wl:=hide (Ef ocols x.ocols (orows.take k) y PV r Wz.out)
   rw[<-bP HX.out]at Wl
   cases r
   ·have HN:Hid (sQ ocols x.ocols (orows.take (k+1)) PV=[]):=hide (by rw[Wl.out,Yg.out];simp)
    have Ns:=hide (aa ma.out nQ.out)
    obtain ⟨⟨LR,g0,g1,g2,g3,g4,g5,g6,g7,g8,g9,g10,g11,g12,g13⟩,⟨L2,r0,r1,r2,r3⟩,L3,s0,s1,s2,s3⟩:=Sd.out _ Ns.out
    go_wp2
    go_roundw
    case rel=>exact ⟨k+1,by omega,by go_num,HN.out,Du.out⟩
    case measure=>simp[RowKit.intOf];omega
   ·have HN:Hid (G.isEmpty=false):=hide (by
     rw[<-HG.out]
     have h1:y∈sQ ocols x.ocols orows PV:=by
      have h2:y∈sQ ocols x.ocols (orows.take (k+1)) PV:=by rw[Wl.out];simp
      exact List.mem_filter.2 ⟨List.mem_of_mem_take (List.mem_filter.1 (show y∈(orows.take (k+1)).filter _ from h2)).1,(List.mem_filter.1 (show y∈(orows.take (k+1)).filter _ from h2)).2⟩
     cases hg:sQ ocols x.ocols orows PV with
     |nil=>rw[hg]at h1;cases h1
     |cons a l=>rfl)
    have Ae:=hide (aa ma.out nQ.out)
    obtain ⟨⟨LR,g0,g1,g2,g3,g4,g5,g6,g7,g8,g9,g10,g11,g12,g13⟩,⟨L2,r0,r1,r2,r3⟩,L3,s0,s1,s2,s3⟩:=Sd.out _ Ae.out
    go_wp2
    go_ret
    exact ⟨ay (by rw[HRR.out,HN.out];simp),jk.out⟩
  ·have HT:Hid (orows.take k=orows):=hide (List.take_of_length_le (by rw[RX.out];omega))
   have HN:Hid (G.isEmpty=true):=hide (by rw[<-HG.out,<-HT.out,Yg.out];rfl)
   have jk:=hide (aa (aa sH.out ma.out) il.out)
   have Dq:=hide (aa ma.out il.out)
   obtain ⟨⟨LR,g0,g1,g2,g3,g4,g5,g6,g7,g8,g9,g10,g11,g12,g13⟩,⟨L2,r0,r1,r2,r3⟩,L3,s0,s1,s2,s3⟩:=Sd.out _ Dq.out
   go_wp2_with fail
   refine (wP _ Ap mp cp PV (HP.out.below il.out)).mono ?_
   rintro e w6 ⟨rfl,rfl⟩
   rw[Wv.out]
   go_wp2
   go_ret
   exact ⟨ay (by rw[HRR.out,HN.out];simp),jk.out⟩
theorem Bc (hb1:n'<=4096)(hb2:n1<=4096)(hb3:n2<=4096)(Ar:Option Addr)(nr cr:Nat)(row:List Val)(hrow:In w Ar nr cr row)(hE:aI x cols ocols rows orows zs=0)(q0:(x.kind==0)=false)(q1:(x.kind==1)=false)(q2:(x.kind==2)=false)(q3:(x.kind==3)=false)(q4:(x.kind==4)=true):
  Calls Tryz.prog 52 #[.agg (ax x A n c A' n' c' aY n'' c'').toArray,.agg #[.string rn,.slice A1 n1 c1,.slice Ak nk ck,.slice A3 n3 c3],.agg #[.string on,.slice A2 n2 c2,.slice Al nl cl,.slice A4 n4 c4],.slice A5 n5 c5,.slice Ar nr cr] w
   λe w'=>e=.returned (.bool (cO x cols ocols rows orows zs row))/\Below w.heap.size w w':=by
 obtain ⟨hE1,hE2,kM⟩:=dR hE
 obtain ⟨⟨k0,k6⟩,hcz,dN⟩:=fw hE1
 obtain ⟨hbz,htz,hrz⟩:=bA hE2
 obtain ⟨hrl,hrc⟩:=eQ hbz htz
 have hrl':n3<=4096:=by rw[<-hr.len];exact hrl
 have Kw:=hide hrl
 have HV:=hide (iF (x:=x) (rc:=cols) (oc:=ocols) (rr:=rows) (orr:=orows) (zs:=zs) (row:=row))
 obtain ⟨R,hR⟩: ∃V,cO x cols ocols rows orows zs row=V:=⟨_,rfl⟩
 rw[hR]at HV
 rw[hR]
 have Kk:=hide kM
 have mG:=hide dN
 have Ca:=hide hrc
 have xR:=hide hr.len
 have RX:=hide hor.len
 have xC:Hid (∀W,In W A1 n1 c1 cols->In W A n c x.cols->In W Ar nr cr row->Calls Tryz.prog 82 #[.slice A1 n1 c1,.slice A n c,.slice Ar nr cr] W
   λe w'=>(∃A' m c',e=.returned (.slice A' m c')/\In w' A' m c' (aN cols x.cols row))/\Below W.heap.size W w'):=hide λW h1 h2 h3=>
  (iT W A1 n1 c1 cols h1 A n c x.cols h2 Ar nr cr row h3 (by omega) hb0).mono (by rintro e w1 ⟨⟨A',m,c',rfl,h4,h5,_⟩,hb⟩;exact ⟨⟨A',m,c',rfl,gD h4 h5⟩,hb⟩)
 have J8:=hide (show (bD cols x.cols).1=0->(aN cols x.cols row).length=x.cols.length from λh=>by rw[aN,jD,(fC h).1,List.length_map])
 obtain ⟨PV,sS⟩: ∃p,aN cols x.cols row=p:=⟨_,rfl⟩
 rw[sS]at HV xC J8
 clear sS hE hE1 hE2 kM hcz dN hbz htz hrz hrl hrc hR k0 k6
 simp only[ax]
 go_enter Tryz.func52,Tryz.ntmps52
 have HN:=hide hn
 clear hn
 have eT:=hide hn'
 clear hn'
 have HQ:=hide hq
 clear hq
 have HC:=hide hc
 clear hc
 have HO:=hide ho
 clear ho
 have HZ:=hide hz
 clear hz
 have HR:=hide hr
 clear hr
 have kr:=hide hor
 clear hor
 have qw:=hide hrow
 clear hrow
 go_wp2_with fail
 obtain ⟨W3,hW3,d9,bR,XY⟩:=dm w x A n c A' n' c' aY n'' c'' rn A1 n1 c1 Ak nk ck A3 n3 c3 on A2 n2 c2 Al nl cl A4 n4 c4
 rw[<-hW3]
 clear hW3
 have oW:=hide bR
 clear bR
 obtain ⟨⟨LR,g0,g1,g2,g3,g4,g5,g6,g7,g8,g9,g10,g11,g12,g13⟩,⟨L2,r0,r1,r2,r3⟩,L3,s0,s1,s2,s3⟩:=XY.out _ (Below.refl _ _)
 go_wp2_with fail
 refine (xC.out _ (HC.out.below oW.out) (HN.out.below oW.out) (qw.out.below oW.out)).mono ?_
 rintro e w33 ⟨⟨Ap,mp,cp,rfl,Eo⟩,Mc⟩
 have lw:=hide Mc
 clear Mc
 have HP:=hide Eo
 clear Eo
 have hrr:=HV.out.2.2.2.2.1 (by simpa using q4)
 clear HV
 obtain ⟨HBo,T9⟩: ∃h,bB x.cond cols row zs=h:=⟨_,rfl⟩
 have HH:=hide λW hq hc hz hr=>Bp W x A n c A' n' c' aY n'' c'' hq A1 n1 c1 cols hc A5 n5 c5 zs hz Ar nr cr row hr
 rw[T9]at HH hrr
 clear T9
 obtain rfl:=hrr
 simp only[ax]at HH
 obtain ⟨⟨LR,g0,g1,g2,g3,g4,g5,g6,g7,g8,g9,g10,g11,g12,g13⟩,⟨L2,r0,r1,r2,r3⟩,L3,s0,s1,s2,s3⟩:=XY.out _ lw.out
 go_wp2_with fail
 have tq:=hide (aa oW.out lw.out)
 refine (HH.out _ (HQ.out.below tq.out) (HC.out.below tq.out) (HZ.out.below tq.out) (qw.out.below tq.out)).mono ?_
 rintro e Px ⟨rfl,Md⟩
 have TA:=hide Md
 clear Md
 have xz:=hide (aa lw.out TA.out)
 obtain ⟨⟨LR,g0,g1,g2,g3,g4,g5,g6,g7,g8,g9,g10,g11,g12,g13⟩,⟨L2,r0,r1,r2,r3⟩,L3,s0,s1,s2,s3⟩:=XY.out _ xz.out
 go_wp2
 all_goals (try (exfalso;go_light;simp_all;done))
 go_ret
 exact ⟨rfl,(aa (aa oW.out lw.out) TA.out)⟩
theorem Bd (hb1:n'<=4096)(hb2:n1<=4096)(hb3:n2<=4096)(Ar:Option Addr)(nr cr:Nat)(row:List Val)(hrow:In w Ar nr cr row)(hE:aI x cols ocols rows orows zs=0)(q0:(x.kind==0)=false)(q1:(x.kind==1)=false)(q2:(x.kind==2)=false)(q3:(x.kind==3)=false)(q4:(x.kind==4)=false):
  Calls Tryz.prog 52 #[.agg (ax x A n c A' n' c' aY n'' c'').toArray,.agg #[.string rn,.slice A1 n1 c1,.slice Ak nk ck,.slice A3 n3 c3],.agg #[.string on,.slice A2 n2 c2,.slice Al nl cl,.slice A4 n4 c4],.slice A5 n5 c5,.slice Ar nr cr] w
   λe w'=>e=.returned (.bool (cO x cols ocols rows orows zs row))/\Below w.heap.size w w':=by
 obtain ⟨hE1,hE2,kM⟩:=dR hE
 obtain ⟨⟨k0,k6⟩,hcz,dN⟩:=fw hE1
 obtain ⟨hbz,htz,hrz⟩:=bA hE2
 obtain ⟨hrl,hrc⟩:=eQ hbz htz
 have hrl':n3<=4096:=by rw[<-hr.len];exact hrl
 have Kw:=hide hrl
 have HV:=hide (iF (x:=x) (rc:=cols) (oc:=ocols) (rr:=rows) (orr:=orows) (zs:=zs) (row:=row))
 obtain ⟨R,hR⟩: ∃V,cO x cols ocols rows orows zs row=V:=⟨_,rfl⟩
 rw[hR]at HV
 rw[hR]
 have Kk:=hide kM
 have mG:=hide dN
 have Ca:=hide hrc
 have xR:=hide hr.len
 have RX:=hide hor.len
 have xC:Hid (∀W,In W A1 n1 c1 cols->In W A n c x.cols->In W Ar nr cr row->Calls Tryz.prog 82 #[.slice A1 n1 c1,.slice A n c,.slice Ar nr cr] W
   λe w'=>(∃A' m c',e=.returned (.slice A' m c')/\In w' A' m c' (aN cols x.cols row))/\Below W.heap.size W w'):=hide λW h1 h2 h3=>
  (iT W A1 n1 c1 cols h1 A n c x.cols h2 Ar nr cr row h3 (by omega) hb0).mono (by rintro e w1 ⟨⟨A',m,c',rfl,h4,h5,_⟩,hb⟩;exact ⟨⟨A',m,c',rfl,gD h4 h5⟩,hb⟩)
 have J8:=hide (show (bD cols x.cols).1=0->(aN cols x.cols row).length=x.cols.length from λh=>by rw[aN,jD,(fC h).1,List.length_map])
 obtain ⟨PV,sS⟩: ∃p,aN cols x.cols row=p:=⟨_,rfl⟩
 rw[sS]at HV xC J8
 clear sS hE hE1 hE2 kM hcz dN hbz htz hrz hrl hrc hR k0 k6
 simp only[ax]
 go_enter Tryz.func52,Tryz.ntmps52
 have HN:=hide hn
 clear hn
 have eT:=hide hn'
 clear hn'
 have HQ:=hide hq
 clear hq
 have HC:=hide hc
 clear hc
 have HO:=hide ho
 clear ho
 have HZ:=hide hz
 clear hz
 have HR:=hide hr
 clear hr
 have kr:=hide hor
 clear hor
 have qw:=hide hrow
 clear hrow
 go_wp2_with fail
 obtain ⟨W3,hW3,d9,bR,YE⟩:=dm w x A n c A' n' c' aY n'' c'' rn A1 n1 c1 Ak nk ck A3 n3 c3 on A2 n2 c2 Al nl cl A4 n4 c4
 rw[<-hW3]
 clear hW3
 have NY:=hide bR
 clear bR
 obtain ⟨⟨LR,g0,g1,g2,g3,g4,g5,g6,g7,g8,g9,g10,g11,g12,g13⟩,⟨L2,r0,r1,r2,r3⟩,L3,s0,s1,s2,s3⟩:=YE.out _ (Below.refl _ _)
 go_wp2_with fail
 refine (xC.out _ (HC.out.below NY.out) (HN.out.below NY.out) (qw.out.below NY.out)).mono ?_
 rintro e w41 ⟨⟨Ap,mp,cp,rfl,Eo⟩,Um⟩
 have TB:=hide Um
 clear Um
 have HP:=hide Eo
 clear Eo
 obtain rfl:R=false:=HV.out.2.2.2.2.2 (by simpa using q0) (by simpa using q1) (by simpa using q2) (by simpa using q3) (by simpa using q4)
 clear HV
 obtain ⟨⟨LR,g0,g1,g2,g3,g4,g5,g6,g7,g8,g9,g10,g11,g12,g13⟩,⟨L2,r0,r1,r2,r3⟩,L3,s0,s1,s2,s3⟩:=YE.out _ TB.out
 go_wp2
 all_goals (try (exfalso;go_light;simp_all;done))
 go_ret
 exact ⟨rfl,(aa NY.out TB.out)⟩
theorem zW (hb1:n'<=4096)(hb2:n1<=4096)(hb3:n2<=4096)(Ar:Option Addr)(nr cr:Nat)(row:List Val)(hrow:In w Ar nr cr row)(hE:aI x cols ocols rows orows zs=0):
  Calls Tryz.prog 52 #[.agg (ax x A n c A' n' c' aY n'' c'').toArray,.agg #[.string rn,.slice A1 n1 c1,.slice Ak nk ck,.slice A3 n3 c3],.agg #[.string on,.slice A2 n2 c2,.slice Al nl cl,.slice A4 n4 c4],.slice A5 n5 c5,.slice Ar nr cr] w
   λe w'=>e=.returned (.bool (cO x cols ocols rows orows zs row))/\Below w.heap.size w w':=by
 cases q0:(x.kind==0)
 ·cases q1:(x.kind==1)
  ·cases q2:(x.kind==2)
   ·cases q3:(x.kind==3)
    ·cases q4:(x.kind==4)
     ·exact Bd w x A n c hn A' n' c' hn' aY n'' c'' hq rn A1 n1 c1 cols hc Ak nk ck A3 n3 c3 rows hr on A2 n2 c2 ocols ho Al nl cl A4 n4 c4 orows hor A5 n5 c5 zs hz hb0 hb1 hb2 hb3 Ar nr cr row hrow hE q0 q1 q2 q3 q4
     ·exact Bc w x A n c hn A' n' c' hn' aY n'' c'' hq rn A1 n1 c1 cols hc Ak nk ck A3 n3 c3 rows hr on A2 n2 c2 ocols ho Al nl cl A4 n4 c4 orows hor A5 n5 c5 zs hz hb0 hb1 hb2 hb3 Ar nr cr row hrow hE q0 q1 q2 q3 q4
    ·exact Bb w x A n c hn A' n' c' hn' aY n'' c'' hq rn A1 n1 c1 cols hc Ak nk ck A3 n3 c3 rows hr on A2 n2 c2 ocols ho Al nl cl A4 n4 c4 orows hor A5 n5 c5 zs hz hb0 hb1 hb2 hb3 Ar nr cr row hrow hE q0 q1 q2 q3
   ·exact Ba w x A n c hn A' n' c' hn' aY n'' c'' hq rn A1 n1 c1 cols hc Ak nk ck A3 n3 c3 rows hr on A2 n2 c2 ocols ho Al nl cl A4 n4 c4 orows hor A5 n5 c5 zs hz hb0 hb1 hb2 hb3 Ar nr cr row hrow hE q0 q1 q2
  ·exact AZ w x A n c hn A' n' c' hn' aY n'' c'' hq rn A1 n1 c1 cols hc Ak nk ck A3 n3 c3 rows hr on A2 n2 c2 ocols ho Al nl cl A4 n4 c4 orows hor A5 n5 c5 zs hz hb0 hb1 hb2 hb3 Ar nr cr row hrow hE q0 q1
 ·exact AY w x A n c hn A' n' c' hn' aY n'' c'' hq rn A1 n1 c1 cols hc Ak nk ck A3 n3 c3 rows hr on A2 n2 c2 ocols ho Al nl cl A4 n4 c4 orows hor A5 n5 c5 zs hz hb0 hb1 hb2 hb3 Ar nr cr row hrow hE q0
end
theorem iG (w:World)(x:Chk)(A:Option Addr)(n c:Nat)(hn:In w A n c x.cols)(A':Option Addr)(n' c':Nat)(hn':In w A' n' c' x.ocols)(aY:Option Addr)(n'' c'':Nat)(hq:In w aY n'' c'' x.cond)(rn:ByteArray)(A1:Option Addr)(n1 c1:Nat)(cols:List Col)(hc:In w A1 n1 c1 cols)(Ak:Option Addr)(nk ck:Nat)(A3:Option Addr)(n3 c3:Nat)(rows:List Ent)(hr:In w A3 n3 c3 rows)(on:ByteArray)(A2:Option Addr)(n2 c2:Nat)(ocols:List Col)(ho:In w A2 n2 c2 ocols)(Al:Option Addr)(nl cl:Nat)(A4:Option Addr)(n4 c4:Nat)(orows:List Ent)(hor:In w A4 n4 c4 orows)(A5:Option Addr)(n5 c5:Nat)(zs:List Zone)(hz:In w A5 n5 c5 zs)(hb0:n<=4096)(hb1:n'<=4096)(hb2:n1<=4096)(hb3:n2<=4096):
  Calls Tryz.prog 23 #[.agg (ax x A n c A' n' c' aY n'' c'').toArray,.agg #[.string rn,.slice A1 n1 c1,.slice Ak nk ck,.slice A3 n3 c3],.agg #[.string on,.slice A2 n2 c2,.slice Al nl cl,.slice A4 n4 c4],.slice A5 n5 c5] w
   λe w'=>(∃v,e=.returned (.tuple #[v,.int .i64 (bG x cols ocols rows orows zs).1])/\OE w.heap.size w' v (bG x cols ocols rows orows zs).2)/\Below w.heap.size w w':=by
 have HA:=hide λW hn hn' hq hc hr ho hor hz=>F7 W x A n c hn A' n' c' hn' aY n'' c'' hq rn A1 n1 c1 cols hc Ak nk ck A3 n3 c3 rows hr on A2 n2 c2 ocols ho Al nl cl A4 n4 c4 orows hor A5 n5 c5 zs hz hb0 hb1 hb2 hb3
 have HB:=hide λW hn hn' hq hc hr ho hor hz Ar nr cr row hrow hE=>zW W x A n c hn A' n' c' hn' aY n'' c'' hq rn A1 n1 c1 cols hc Ak nk ck A3 n3 c3 rows hr on A2 n2 c2 ocols ho Al nl cl A4 n4 c4 orows hor A5 n5 c5 zs hz hb0 hb1 hb2 hb3 Ar nr cr row hrow hE
 have HD:=hide (show bG x cols ocols rows orows zs=if aI x cols ocols rows orows zs≠0 then (aI x cols ocols rows orows zs,[]) else (0,rows.filter λy=>cO x cols ocols rows orows zs y.row) from rfl)
 have HZ0:=hide (λh=>dR (c:=x) (rc:=cols) (oc:=ocols) (rr:=rows) (orr:=orows) (zs:=zs) h)
 obtain ⟨R,hR⟩: ∃R,bG x cols ocols rows orows zs=R:=⟨_,rfl⟩
 obtain ⟨E,hE⟩: ∃E,aI x cols ocols rows orows zs=E:=⟨_,rfl⟩
 obtain ⟨VB,fB⟩: ∃V,cO x cols ocols rows orows zs=V:=⟨_,rfl⟩
 rw[hR,hE]at HD
 rw[hE]at HA HZ0
 rw[fB]at HD HB
 simp only[hE]at HB
 rw[hR]
 clear hR hE fB
 simp only[ax]at HA HB⊢
 go_enter Tryz.func23,Tryz.ntmps23
 have HN:=hide hn
 clear hn
 have eT:=hide hn'
 clear hn'
 have HQ:=hide hq
 clear hq
 have HC:=hide hc
 clear hc
 have HO:=hide ho
 clear ho
 have HZ:=hide hz
 clear hz
 have HR:=hide hr
 clear hr
 have kr:=hide hor
 clear hor
 go_wp2_with fail
 obtain ⟨W3,hW3,d9,bR,o1⟩:=dm w x A n c A' n' c' aY n'' c'' rn A1 n1 c1 Ak nk ck A3 n3 c3 on A2 n2 c2 Al nl cl A4 n4 c4
 rw[<-hW3]
 clear hW3
 have fK:=hide bR
 clear bR
 obtain ⟨⟨LR,g0,g1,g2,g3,g4,g5,g6,g7,g8,g9,g10,g11,g12,g13⟩,⟨L2,r0,r1,r2,r3⟩,L3,s0,s1,s2,s3⟩:=o1.out _ (Below.refl _ _)
 go_wp2_with fail
 refine (HA.out _ (HN.out.below fK.out) (eT.out.below fK.out) (HQ.out.below fK.out) (HC.out.below fK.out) (HR.out.below fK.out) (HO.out.below fK.out) (kr.out.below fK.out) (HZ.out.below fK.out)).mono ?_
 rintro e w3 ⟨rfl,hb3⟩
 have jH:=hide hb3
 clear hb3
 by_cases hE0:E=0
 rotate_left
 ·have q0:(E != 0)=true:=by simpa using hE0
  have FN:Hid (R=(E,[])):=hide (by rw[HD.out,if_pos hE0])
  obtain rfl:=FN.out
  obtain ⟨⟨LR,g0,g1,g2,g3,g4,g5,g6,g7,g8,g9,g10,g11,g12,g13⟩,⟨L2,r0,r1,r2,r3⟩,L3,s0,s1,s2,s3⟩:=o1.out _ jH.out
  go_wp2
  all_goals (try (exfalso;go_light;simp_all;done))
  go_ret2
  exact ⟨⟨_,rfl,OL.nil (aa fK.out jH.out).size⟩,(aa fK.out jH.out)⟩
 subst hE0
 have KG:=hide (bA (HZ0.out (by first|rfl|trivial)).2.1)
 have Ah:=hide (eQ KG.out.1 KG.out.2.1)
 have Rp:n3<=4096:=by have:=Ah.out.1;rw[HR.out.len]at this;exact this
 have HLEN:=hide HR.out.len
 have We:=hide HC.out.len
 have h63:=HR.out.le
 obtain ⟨W5,rfl⟩: ∃W,W=w3:=⟨_,rfl⟩
 have Vg:=hide (aa fK.out jH.out).size
 have Bg:=hide (aa fK.out jH.out)
 have Zg:=hide (HR.out.below Bg.out)
 obtain ⟨⟨LR,g0,g1,g2,g3,g4,g5,g6,g7,g8,g9,g10,g11,g12,g13⟩,⟨L2,r0,r1,r2,r3⟩,L3,s0,s1,s2,s3⟩:=o1.out _ jH.out
 go_wp2
 go_loopw [11,12] (λo i wr=> ∃(k:Nat) (ys:List Ent),k<=n3/\i=.int .i64 k/\ys=(rows.take k).filter (λy=>VB y.row)/\ys.length<=k/\OL 61 W5.heap.size (λ_=>True) [] wr o ys/\Below W5.heap.size W5 wr) (λ_ i _=>n3-(RowKit.intOf i).toNat)
 case atStart=>exact ⟨0,[],Nat.zero_le _,rfl,by simp,by simp,OL.nil (Nat.le_refl _),Below.refl _ _⟩
 case round=>
  obtain ⟨k,ys,hk,rfl,hys,hyl,hol,hb⟩:=hrel
  have Hg:=hide hys
  have sJ:=hide hol
  have Va:=hide hb
  clear hys hol
  have uw:=hide hb
  clear hb
  by_cases hlt:k<n3
  ·obtain ⟨b,off,y,rfl,O3,HX,Ax,An,Ac,f0,f1,e2,e3⟩:=Zg.out.ent hlt
   have k0:(0:Int)<=(k:Int):=by omega
   have k1:(k:Int)<(n3:Int):=by omega
   have hBb:b<wr.heap.size:=Nat.lt_of_lt_of_le O3 Va.out.size
   have e0:=ah Va.out O3 f0
   have e1:=ah Va.out O3 f1
   have SA:=hide e2
   have HI:=hide (e2.below Va.out)
   have yj:=hide hBb
   have E0:=hide e0
   have E1:=hide e1
   have l9:=hide uw.out
   have jk:=hide (aa (aa fK.out jH.out) uw.out)
   have Zw:=hide (aM HX.out)
   clear e1 e2 f0 f1 O3
   have Py:=hide (aa jH.out uw.out)
   obtain ⟨⟨LR,g0,g1,g2,g3,g4,g5,g6,g7,g8,g9,g10,g11,g12,g13⟩,⟨L2,r0,r1,r2,r3⟩,L3,s0,s1,s2,s3⟩:=o1.out _ Py.out
   have QI:=hide g0
   have ZC:=hide g1
   have ZE:=hide g2
   have KS:=hide g3
   have ZF:=hide g4
   have KT:=hide g5
   have ZG:=hide g6
   have ZH:=hide g7
   have ZI:=hide g8
   have ZJ:=hide g9
   have WS:=hide g10
   have WT:=hide g11
   have WU:=hide g12
   have WV:=hide g13
   have KW:=hide r0
   have DJ:=hide r1
   have KY:=hide r2
   have KZ:=hide r3
   have K3:=hide s0
   have K4:=hide s1
   have K5:=hide s2
   have K6:=hide s3
   have qj:=hide LR
   have ni:=hide L2
   have qi:=hide L3
   go_wp2
   have J4:=hide (aa (aa fK.out jH.out) uw.out)
   go_region_held3 (λV=>V.cell? ⟨w.heap.size,0,none⟩=some (.string x.name)/\V.cell? ⟨w.heap.size,1,none⟩=some (.string x.table)/\V.cell? ⟨w.heap.size,2,none⟩=some (.int .i64 x.kind)/\V.cell? ⟨w.heap.size,3,none⟩=some (.slice A n c)/\V.cell? ⟨w.heap.size,4,none⟩=some (.string x.other)/\V.cell? ⟨w.heap.size,5,none⟩=some (.slice A' n' c')/\V.cell? ⟨w.heap.size,6,none⟩=some (.int .i64 x.low)/\V.cell? ⟨w.heap.size,7,none⟩=some (.int .i64 x.high)/\V.cell? ⟨w.heap.size,8,none⟩=some (.slice aY n'' c'')/\V.cell? ⟨w.heap.size,9,none⟩=some (.int .i64 x.ln)/\V.cell? ⟨w.heap.size,10,none⟩=some (.int .i64 x.ld)/\V.cell? ⟨w.heap.size,11,none⟩=some (.int .i64 x.mn)/\V.cell? ⟨w.heap.size,12,none⟩=some (.int .i64 x.md)/\V.cell? ⟨w.heap.size,13,none⟩=some (.int .i64 x.policy)/\V.cell? ⟨w.heap.size+1,0,none⟩=some (.string rn)/\V.cell? ⟨w.heap.size+1,1,none⟩=some (.slice A1 n1 c1)/\V.cell? ⟨w.heap.size+1,2,none⟩=some (.slice Ak nk ck)/\V.cell? ⟨w.heap.size+1,3,none⟩=some (.slice (some ⟨b,off,none⟩) n3 c3)/\V.cell? ⟨w.heap.size+1+1,0,none⟩=some (.string on)/\V.cell? ⟨w.heap.size+1+1,1,none⟩=some (.slice A2 n2 c2)/\V.cell? ⟨w.heap.size+1+1,2,none⟩=some (.slice Al nl cl)/\V.cell? ⟨w.heap.size+1+1,3,none⟩=some (.slice A4 n4 c4)/\V.cell? ⟨b,off+k*2,none⟩=some (.slice Ax An Ac))
    (first|exact ⟨ah ik.out qj.out QI.out,ah ik.out qj.out ZC.out,ah ik.out qj.out ZE.out,ah ik.out qj.out KS.out,ah ik.out qj.out ZF.out,ah ik.out qj.out KT.out,ah ik.out qj.out ZG.out,ah ik.out qj.out ZH.out,ah ik.out qj.out ZI.out,ah ik.out qj.out ZJ.out,ah ik.out qj.out WS.out,ah ik.out qj.out WT.out,ah ik.out qj.out WU.out,ah ik.out qj.out WV.out,ah ik.out ni.out KW.out,ah ik.out ni.out DJ.out,ah ik.out ni.out KY.out,ah ik.out ni.out KZ.out,ah ik.out qi.out K3.out,ah ik.out qi.out K4.out,ah ik.out qi.out K5.out,ah ik.out qi.out K6.out,ah ik.out yj.out E0.out⟩|exact ⟨g0,g1,g2,g3,g4,g5,g6,g7,g8,g9,g10,g11,g12,g13,r0,r1,r2,r3,s0,s1,s2,s3,e0⟩|go_keep)
    (first|(go_at_call 52;refine (HB.out _ (by exact (HN.out.below J4.out).below (Below.refl _ _).drew) (by exact (eT.out.below J4.out).below (Below.refl _ _).drew) (by exact (HQ.out.below J4.out).below (Below.refl _ _).drew) (by exact (HC.out.below J4.out).below (Below.refl _ _).drew) (by exact (HR.out.below J4.out).below (Below.refl _ _).drew) (by exact (HO.out.below J4.out).below (Below.refl _ _).drew) (by exact (kr.out.below J4.out).below (Below.refl _ _).drew) (by exact (HZ.out.below J4.out).below (Below.refl _ _).drew) Ax An Ac y.row (by exact HI.out.below (Below.refl _ _).drew) (by first|rfl|trivial)).mono ?_;rintro e w7 ⟨rfl,dC⟩;have ik:=hide (ag dC);clear dC))
   have dC:=ik.out
   have QG:=hide dC
   have uy:=hide (aa uw.out dC)
   clear dC
   have SL:=hide (sJ.out.below QG.out)
   have e0:=ah QG.out yj.out E0.out
   have e1:=ah QG.out yj.out E1.out
   have Du:=hide uy.out
   have UJ:=hyl
   have RT:Hid (Rep.rd w7 (BS W5.heap.size (λ_=>True) [] w7) [.slice Ax An Ac,.int .i64 y.count] y):=hide ⟨Ax,An,Ac,rfl,(Sl.keep (Same.below Du.out) SA.out).mono λk hk=>.inl ⟨trivial,hk⟩,e3⟩
   cases hv:VB y.row
   ·have FJ:Hid (ys=(rows.take (k+1)).filter (λy=>VB y.row)):=hide (by rw[bP HX.out,List.filter_append,Hg.out,List.filter_cons_of_neg (by simp[hv])];simp)
    have FD:=hide (aa jH.out uy.out)
    obtain ⟨⟨LR,g0,g1,g2,g3,g4,g5,g6,g7,g8,g9,g10,g11,g12,g13⟩,⟨L2,r0,r1,r2,r3⟩,L3,s0,s1,s2,s3⟩:=o1.out _ FD.out
    go_wp2
    go_roundw
    case rel=>exact ⟨k+1,ys,by omega,by go_num,FJ.out,by omega,SL.out,Du.out⟩
    case measure=>simp[RowKit.intOf];omega
   ·have FJ:Hid (ys++[y]=(rows.take (k+1)).filter (λy=>VB y.row)):=hide (by rw[bP HX.out,List.filter_append,Hg.out,List.filter_cons_of_pos (by simp[hv])];simp)
    have xK:ys.length+1<=maxLen:=by simp only[maxLen];omega
    have xL:(ys.length+1)*32<=140737488355328:=by omega
    have Ir:=hide (aa jH.out uy.out)
    obtain ⟨⟨LR,g0,g1,g2,g3,g4,g5,g6,g7,g8,g9,g10,g11,g12,g13⟩,⟨L2,r0,r1,r2,r3⟩,L3,s0,s1,s2,s3⟩:=o1.out _ Ir.out
    go_wp2_with (at_builtin;refine dH _ rfl _ _ _ rfl vR (by simp) w7 _ rfl SL.out rfl rfl y RT.out xK xL ?_;intro v9 w9 sU gP sI pM)
    have Aa:=hide sU
    have qp:=hide (Du.out.trans gP)
    clear sU gP sI pM
    go_wp2
    go_roundw
    case rel=>exact ⟨k+1,ys++[y],by omega,by go_num,FJ.out,by simp;omega,Aa.out,qp.out⟩
    case measure=>simp[RowKit.intOf];omega
  ·have HT:Hid (ys=rows.filter λy=>VB y.row):=hide (by rw[Hg.out,List.take_of_length_le (by rw[HLEN.out];omega)])
   have FN:Hid (R=(0,ys)):=hide (by rw[HD.out,HT.out];simp)
   obtain ⟨A8,c8,rfl,R9⟩:=sJ.out.inn
   have Yh:=hide R9
   have Zu:Hid (∀z∈ys,z.row.length<=4096):=hide (λz hz=>by
    have Ru:z∈rows:=by rw[HT.out]at hz;exact (List.mem_filter.1 hz).1
    have h1:=iU (KG.out.2.2 z Ru)
    have h2:=We.out
    omega)
   have hy3:ys.length<=1048576:=by omega
   obtain ⟨m8,Jn⟩: ∃m,ys.length=m:=⟨_,rfl⟩
   rw[Jn]at Yh hy3⊢
   clear R9
   have lq:=hide (aa jH.out uw.out)
   obtain ⟨⟨LR,g0,g1,g2,g3,g4,g5,g6,g7,g8,g9,g10,g11,g12,g13⟩,⟨L2,r0,r1,r2,r3⟩,L3,s0,s1,s2,s3⟩:=o1.out _ lq.out
   go_wp2_with fail
   refine (Cm _ A8 m8 c8 ys (by exact Yh.out) hy3 Zu.out).mono ?_
   rintro e VQ ⟨⟨v10,rfl,Ur⟩,qY⟩
   have FK:=hide ((Ur.ol qY.size).rebase (aa (aa fK.out jH.out) uw.out).size)
   have lu:=hide (aa (aa (aa fK.out jH.out) uw.out) qY)
   clear Ur qY
   obtain rfl:=FN.out
   go_wp2
   go_ret2
   exact ⟨⟨_,rfl,FK.out⟩,lu.out⟩
end Go.Proofs.YtggejcekmehocaaGreatDoor
