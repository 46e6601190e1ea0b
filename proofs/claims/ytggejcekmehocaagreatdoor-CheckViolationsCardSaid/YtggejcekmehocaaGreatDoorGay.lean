/-
  check.Violations. (Printed by gen_vioW.py.) check.Violations. (Printed by gen_vioW.py.)
-/
import Derived.Test.YtggejcekmehocaaGreatDoorGaw
import Derived.Test.YtggejcekmehocaaGreatDoorGap
import Derived.Test.YtggejcekmehocaaGreatDoorGal
namespace Go.Proofs.YtggejcekmehocaaGreatDoor
set_option maxHeartbeats 4000000
set_option maxRecDepth 100000
open Go.RowKit Go.Maps
set_option linter.unusedSimpArgs false
set_option linter.unusedVariables false
theorem OL.ne_new {α:Type}[Rep α]{e:TypeId}{B:Nat}{O:Nat->Prop}{T:List TypeId}{w:World}{v:Value}{xs:List α}(h:OL e B O T w v xs):some w.heap.size≠v.ownBlock:=λq=>by
 have:=(h.ty q.symm).2.lt
 omega
theorem qf (w:World)(x:Chk)(A:Option Addr)(n c:Nat)(hn:In w A n c x.cols)(A':Option Addr)(n' c':Nat)(hn':In w A' n' c' x.ocols)(aY:Option Addr)(n'' c'':Nat)(hq:In w aY n'' c'' x.cond)(hw:Words w)(rn:ByteArray)(A1:Option Addr)(n1 c1:Nat)(cols:List Col)(hc:In w A1 n1 c1 cols)(Ak:Option Addr)(nk ck:Nat)(A3:Option Addr)(n3 c3:Nat)(rows:List Ent)(hr:In w A3 n3 c3 rows)(on:ByteArray)(A2:Option Addr)(n2 c2:Nat)(ocols:List Col)(ho:In w A2 n2 c2 ocols)(Al:Option Addr)(nl cl:Nat)(A4:Option Addr)(n4 c4:Nat)(orows:List Ent)(hor:In w A4 n4 c4 orows)(A5:Option Addr)(n5 c5:Nat)(zs:List Zone)(hz:In w A5 n5 c5 zs)(hb0:n<=4096)(hb1:n'<=4096)(hb2:n1<=4096)(hb3:n2<=4096)(hK:((x.kind==0)=true)\/((x.kind==0)=false/\(x.kind==1)=false/\(x.kind==2)=false/\(x.kind==3)=false/\(x.kind==4)=false)):
  Calls Tryz.prog 29 #[.agg (ax x A n c A' n' c' aY n'' c'').toArray,.agg #[.string rn,.slice A1 n1 c1,.slice Ak nk ck,.slice A3 n3 c3],.agg #[.string on,.slice A2 n2 c2,.slice Al nl cl,.slice A4 n4 c4],.slice A5 n5 c5] w
   λe w'=>(∃v,e=.returned (.tuple #[v,.int .i64 (bG x cols ocols rows orows zs).1])/\OE w.heap.size w' v (bG x cols ocols rows orows zs).2)/\Below w.heap.size w w':=by
 have HA:=hide λW hn hn' hq hw hc hr ho hor hz=>uF W x A n c hn A' n' c' hn' aY n'' c'' hq hw rn A1 n1 c1 cols hc Ak nk ck A3 n3 c3 rows hr on A2 n2 c2 ocols ho Al nl cl A4 n4 c4 orows hor A5 n5 c5 zs hz hb0 hb1 hb2 hb3
 have HB:=hide λW hn hn' hq hw hc hr ho hor hz hE=>ug W x A n c hn A' n' c' hn' aY n'' c'' hq hw rn A1 n1 c1 cols hc Ak nk ck A3 n3 c3 rows hr on A2 n2 c2 ocols ho Al nl cl A4 n4 c4 orows hor A5 n5 c5 zs hz hb0 hb1 hb2 hb3 hE hK
 have HD:=hide (show bG x cols ocols rows orows zs=if aI x cols ocols rows orows zs≠0 then (aI x cols ocols rows orows zs,[]) else (0,rows.filter λy=>cO x cols ocols rows orows zs y.row) from rfl)
 have HZ0:=hide (λh=>dR (c:=x) (rc:=cols) (oc:=ocols) (rr:=rows) (orr:=orows) (zs:=zs) h)
 obtain ⟨R,hR⟩: ∃R,bG x cols ocols rows orows zs=R:=⟨_,rfl⟩
 obtain ⟨E,hE⟩: ∃E,aI x cols ocols rows orows zs=E:=⟨_,rfl⟩
 obtain ⟨VB,fB⟩: ∃V,cO x cols ocols rows orows zs=V:=⟨_,rfl⟩
 rw[hR,hE]at HD
 rw[hE]at HA HZ0
 rw[fB]at HD HB
 simp only[hE]at HB
 rw[hR]
 clear hR hE fB
 simp only[ax]at HA HB⊢
 go_enter Tryz.func29,Tryz.ntmps29
 have HN:=hide hn
 clear hn
 have eT:=hide hn'
 clear hn'
 have HQ:=hide hq
 clear hq
 have HW:=hide hw
 clear hw
 have HC:=hide hc
 clear hc
 have HO:=hide ho
 clear ho
 have HZ:=hide hz
 clear hz
 have HR:=hide hr
 clear hr
 have kr:=hide hor
 clear hor
 go_wp2_with fail
 obtain ⟨W3,hW3,d9,bR,o1⟩:=dm w x A n c A' n' c' aY n'' c'' rn A1 n1 c1 Ak nk ck A3 n3 c3 on A2 n2 c2 Al nl cl A4 n4 c4
 rw[<-hW3]
 clear hW3
 have fK:=hide bR
 clear bR
 obtain ⟨⟨LR,g0,g1,g2,g3,g4,g5,g6,g7,g8,g9,g10,g11,g12,g13⟩,⟨L2,r0,r1,r2,r3⟩,L3,s0,s1,s2,s3⟩:=o1.out _ (Below.refl _ _)
 go_wp2_with fail
 refine (HA.out _ (HN.out.below fK.out) (eT.out.below fK.out) (HQ.out.below fK.out) (HW.out.below fK.out) (HC.out.below fK.out) (HR.out.below fK.out) (HO.out.below fK.out) (kr.out.below fK.out) (HZ.out.below fK.out)).mono ?_
 rintro e w3 ⟨rfl,hb3⟩
 have jH:=hide hb3
 clear hb3
 by_cases hE0:E=0
 rotate_left
 ·have q0:(E != 0)=true:=by simpa using hE0
  have FN:Hid (R=(E,[])):=hide (by rw[HD.out,if_pos hE0])
  obtain rfl:=FN.out
  obtain ⟨⟨LR,g0,g1,g2,g3,g4,g5,g6,g7,g8,g9,g10,g11,g12,g13⟩,⟨L2,r0,r1,r2,r3⟩,L3,s0,s1,s2,s3⟩:=o1.out _ jH.out
  go_wp2
  all_goals (try (exfalso;go_light;simp_all;done))
  go_ret2
  exact ⟨⟨_,rfl,OL.nil (aa fK.out jH.out).size⟩,(aa fK.out jH.out)⟩
 subst hE0
 obtain ⟨⟨LR,g0,g1,g2,g3,g4,g5,g6,g7,g8,g9,g10,g11,g12,g13⟩,⟨L2,r0,r1,r2,r3⟩,L3,s0,s1,s2,s3⟩:=o1.out _ jH.out
 go_wp2_with fail
 have xA:=hide (aa fK.out jH.out)
 refine (HB.out _ (HN.out.below xA.out) (eT.out.below xA.out) (HQ.out.below xA.out) (HW.out.below xA.out) (HC.out.below xA.out) (HR.out.below xA.out) (HO.out.below xA.out) (kr.out.below xA.out) (HZ.out.below xA.out) (by first|rfl|trivial)).mono ?_
 rintro e w5 ⟨⟨fv,rfl,hbad⟩,hb5⟩
 have kv:=hide (aa jH.out hb5)
 clear hb5
 have HBAD:=hide hbad
 have KG:=hide (bA (HZ0.out (by first|rfl|trivial)).2.1)
 have Ah:=hide (eQ KG.out.1 KG.out.2.1)
 have Rp:n3<=4096:=by have:=Ah.out.1;rw[HR.out.len]at this;exact this
 have HLEN:=hide HR.out.len
 have h63:=HR.out.le
 clear hbad
 obtain ⟨k9,IY,rfl,hcf,hcall⟩:=HBAD.out
 have Kj:=hide hcall
 clear hcall HBAD
 obtain ⟨W5,rfl⟩: ∃W,W=w5:=⟨_,rfl⟩
 have Vg:=hide (aa fK.out kv.out).size
 obtain ⟨-,⟨L2,r0,r1,r2,r3⟩, -⟩:=o1.out _ kv.out
 go_wp2
 go_loopw [12,31] (λo i wr=> ∃(k:Nat) (ys:List Ent),k<=n3/\i=.int .i64 k/\ys=(rows.take k).filter (λy=>VB y.row)/\ys.length<=k/\OE W5.heap.size wr o ys/\Below W5.heap.size W5 wr) (λ_ i _=>n3-(RowKit.intOf i).toNat)
 case atStart=>exact ⟨0,[],Nat.zero_le _,rfl,by simp,by simp,OL.nil (Nat.le_refl _),Below.refl _ _⟩
 case round=>
  obtain ⟨k,ys,hk,rfl,hys,hyl,hol,hb⟩:=hrel
  have Hg:=hide hys
  have sJ:=hide hol
  clear hys hol
  have mf:=hide hb
  clear hb
  by_cases hlt:k<n3
  ·have Sn:=hide (aa (aa fK.out kv.out) mf.out)
   obtain ⟨b,off,y,rfl,hBb,HX,Ax,An,Ac,e0,e1,e2,e3⟩:=(HR.out.below Sn.out).ent hlt
   have k0:(0:Int)<=(k:Int):=by omega
   have k1:(k:Int)<(n3:Int):=by omega
   have Kl:=hide (KG.out.2.2 y (aM HX.out))
   have HE2:=hide e2
   have Vj:=hide mf.out
   have R4:=hide (aa (aa fK.out kv.out) mf.out)
   clear e2
   have FD:=hide (aa kv.out mf.out)
   obtain ⟨-,⟨L2,r0,r1,r2,r3⟩, -⟩:=o1.out _ FD.out
   go_wp2_with fail
   refine (Kj.out _ (by exact aa mf.out af) _ _ _ y.row (by exact HE2.out.below af) Kl.out).mono ?_
   rintro e w8 ⟨rfl,uR⟩
   have x0:=ah (b:=wr.heap.size) (o:=0) (v:=.slice Ax An Ac) uR (by simp) (by simp[go_sem])
   have x1:=ah (b:=wr.heap.size) (o:=1) (v:=.int .i64 y.count) uR (by simp) (by simp[go_sem])
   have gP:=aa af uR
   clear e0 e1 uR
   have DI:=hide gP
   have jV:=hide (aa mf.out gP)
   clear gP
   have dI:=hide sJ.out.ne_new
   have Wh:=hide (HE2.out.below DI.out)
   have BX:=hide (sJ.out.below DI.out)
   have LX:=lt_of_cell x0
   have X0:=hide x0
   have X1:=hide x1
   have jk:=hide (aa (aa fK.out kv.out) jV.out)
   have l9:=hide jV.out
   have UJ:=hyl
   cases hv:VB y.row
   ·have HN:Hid (ys=(rows.take (k+1)).filter (λy=>VB y.row)):=hide (by rw[bP HX.out,List.filter_append,Hg.out,List.filter_cons_of_neg (by simp[hv])];simp)
    have lq:=hide (aa kv.out jV.out)
    obtain ⟨-,⟨L2,r0,r1,r2,r3⟩, -⟩:=o1.out _ lq.out
    go_wp2
    go_roundw
    case rel=>exact ⟨k+1,ys,by omega,by go_num,HN.out,by omega,BX.out,l9.out⟩
    case measure=>simp[RowKit.intOf];omega
   ·have HN:Hid (ys++[y]=(rows.take (k+1)).filter (λy=>VB y.row)):=hide (by rw[bP HX.out,List.filter_append,Hg.out,List.filter_cons_of_pos (by simp[hv])];simp)
    have xK:ys.length+1<=maxLen:=by simp only[maxLen];omega
    have xL:(ys.length+1)*32<=140737488355328:=by omega
    have hrl:An<=1048576:=by have h1:=HC.out.len;rw[<-HE2.out.len,iU Kl.out];omega
    have Ka:=hide (aa kv.out jV.out)
    obtain ⟨-,⟨L2,r0,r1,r2,r3⟩, -⟩:=o1.out _ Ka.out
    go_wp2
    go_region_held3 (λV=>V.cell? ⟨wr.heap.size,0,none⟩=some (.slice Ax An Ac)/\V.cell? ⟨wr.heap.size,1,none⟩=some (.int .i64 y.count))
     (first|exact ⟨y0,y1⟩|exact ⟨ah jE.out LX X0.out,ah jE.out LX X1.out⟩|exact ⟨x0,x1⟩|go_keep)
     (first
      |(go_at_call 63;refine (rX _ Ax An Ac y.row (by exact Wh.out.below (Below.refl _ _).drew) hrl).mono ?_;rintro e w6 ⟨⟨A6,c6,rfl,hs6⟩,hb6⟩;have jE:=hide (ag hb6);have PL:=hide (hs6.mono λk hk=>show BS W5.heap.size (λ_=>False) [74] w6 k from .inr ⟨Nat.le_trans l9.out.size hk.1,_,by simp,hk.2⟩);have Dv:=hide (BX.out.below jE.out);clear hs6 hb6)
      |(refine kG _ rfl _ _ _ rfl vR (by decide) w6 _ rfl Dv.out (by simp[Act.eval,Act.put]) (by simp[Act.eval,Act.put]) ⟨y.row,y.count⟩ ⟨_,_,_,rfl,PL.out,e3⟩ xK xL ?_;intro v9 w9 sU gP sI pM;have Aa:=hide sU;have y0:=(World.cell?_of_block (a:=⟨wr.heap.size,0,none⟩) (sI.block wr.heap.size (lt_of_cell (ah jE.out LX X0.out)) dI.out)).trans (ah jE.out LX X0.out);have y1:=(World.cell?_of_block (a:=⟨wr.heap.size,1,none⟩) (sI.block wr.heap.size (lt_of_cell (ah jE.out LX X1.out)) dI.out)).trans (ah jE.out LX X1.out);have qp:=hide (l9.out.trans ((jE.out.mono l9.out.size).trans gP));clear sU gP sI pM))
    go_wp2
    go_roundw
    case rel=>exact ⟨k+1,ys++[y],by omega,by go_num,HN.out,by simp;omega,Aa.out,qp.out⟩
    case measure=>simp[RowKit.intOf];omega
  ·have HT:Hid (ys=rows.filter λy=>VB y.row):=hide (by rw[Hg.out,List.take_of_length_le (by rw[HLEN.out];omega)])
   have FN:Hid (R=(0,ys)):=hide (by rw[HD.out,HT.out];simp)
   have BX:=hide sJ.out
   have jk:=hide (aa (aa fK.out kv.out) mf.out)
   obtain rfl:=FN.out
   have sZ:=hide (aa kv.out mf.out)
   obtain ⟨-,⟨L2,r0,r1,r2,r3⟩, -⟩:=o1.out _ sZ.out
   go_wp2
   go_ret2
   exact ⟨⟨_,rfl,BX.out.rebase Vg.out⟩,jk.out⟩
theorem kH (w:World)(x:Chk)(A:Option Addr)(n c:Nat)(hn:In w A n c x.cols)(A':Option Addr)(n' c':Nat)(hn':In w A' n' c' x.ocols)(aY:Option Addr)(n'' c'':Nat)(hq:In w aY n'' c'' x.cond)(hw:Words w)(rn:ByteArray)(A1:Option Addr)(n1 c1:Nat)(cols:List Col)(hc:In w A1 n1 c1 cols)(Ak:Option Addr)(nk ck:Nat)(A3:Option Addr)(n3 c3:Nat)(rows:List Ent)(hr:In w A3 n3 c3 rows)(on:ByteArray)(A2:Option Addr)(n2 c2:Nat)(ocols:List Col)(ho:In w A2 n2 c2 ocols)(Al:Option Addr)(nl cl:Nat)(A4:Option Addr)(n4 c4:Nat)(orows:List Ent)(hor:In w A4 n4 c4 orows)(A5:Option Addr)(n5 c5:Nat)(zs:List Zone)(hz:In w A5 n5 c5 zs)(hb0:n<=4096)(hb1:n'<=4096)(hb2:n1<=4096)(hb3:n2<=4096):
  Calls Tryz.prog 29 #[.agg (ax x A n c A' n' c' aY n'' c'').toArray,.agg #[.string rn,.slice A1 n1 c1,.slice Ak nk ck,.slice A3 n3 c3],.agg #[.string on,.slice A2 n2 c2,.slice Al nl cl,.slice A4 n4 c4],.slice A5 n5 c5] w
   λe w'=>(∃v,e=.returned (.tuple #[v,.int .i64 (bG x cols ocols rows orows zs).1])/\OE w.heap.size w' v (bG x cols ocols rows orows zs).2)/\Below w.heap.size w w':=by
 have HA:=hide λW hn hn' hq hw hc hr ho hor hz=>uF W x A n c hn A' n' c' hn' aY n'' c'' hq hw rn A1 n1 c1 cols hc Ak nk ck A3 n3 c3 rows hr on A2 n2 c2 ocols ho Al nl cl A4 n4 c4 orows hor A5 n5 c5 zs hz hb0 hb1 hb2 hb3
 have HB:=hide λW hn hn' hq hw hc hr ho hor hz hE=>Dp W x A n c hn A' n' c' hn' aY n'' c'' hq hw rn A1 n1 c1 cols hc Ak nk ck A3 n3 c3 rows hr on A2 n2 c2 ocols ho Al nl cl A4 n4 c4 orows hor A5 n5 c5 zs hz hb0 hb1 hb2 hb3 hE
 have HD:=hide (show bG x cols ocols rows orows zs=if aI x cols ocols rows orows zs≠0 then (aI x cols ocols rows orows zs,[]) else (0,rows.filter λy=>cO x cols ocols rows orows zs y.row) from rfl)
 have HZ0:=hide (λh=>dR (c:=x) (rc:=cols) (oc:=ocols) (rr:=rows) (orr:=orows) (zs:=zs) h)
 obtain ⟨R,hR⟩: ∃R,bG x cols ocols rows orows zs=R:=⟨_,rfl⟩
 obtain ⟨E,hE⟩: ∃E,aI x cols ocols rows orows zs=E:=⟨_,rfl⟩
 obtain ⟨VB,fB⟩: ∃V,cO x cols ocols rows orows zs=V:=⟨_,rfl⟩
 rw[hR,hE]at HD
 rw[hE]at HA HZ0
 rw[fB]at HD HB
 simp only[hE]at HB
 rw[hR]
 clear hR hE fB
 simp only[ax]at HA HB⊢
 go_enter Tryz.func29,Tryz.ntmps29
 have HN:=hide hn
 clear hn
 have eT:=hide hn'
 clear hn'
 have HQ:=hide hq
 clear hq
 have HW:=hide hw
 clear hw
 have HC:=hide hc
 clear hc
 have HO:=hide ho
 clear ho
 have HZ:=hide hz
 clear hz
 have HR:=hide hr
 clear hr
 have kr:=hide hor
 clear hor
 go_wp2_with fail
 obtain ⟨W3,hW3,d9,bR,o1⟩:=dm w x A n c A' n' c' aY n'' c'' rn A1 n1 c1 Ak nk ck A3 n3 c3 on A2 n2 c2 Al nl cl A4 n4 c4
 rw[<-hW3]
 clear hW3
 have fK:=hide bR
 clear bR
 obtain ⟨⟨LR,g0,g1,g2,g3,g4,g5,g6,g7,g8,g9,g10,g11,g12,g13⟩,⟨L2,r0,r1,r2,r3⟩,L3,s0,s1,s2,s3⟩:=o1.out _ (Below.refl _ _)
 go_wp2_with fail
 refine (HA.out _ (HN.out.below fK.out) (eT.out.below fK.out) (HQ.out.below fK.out) (HW.out.below fK.out) (HC.out.below fK.out) (HR.out.below fK.out) (HO.out.below fK.out) (kr.out.below fK.out) (HZ.out.below fK.out)).mono ?_
 rintro e w3 ⟨rfl,hb3⟩
 have jH:=hide hb3
 clear hb3
 by_cases hE0:E=0
 rotate_left
 ·have q0:(E != 0)=true:=by simpa using hE0
  have FN:Hid (R=(E,[])):=hide (by rw[HD.out,if_pos hE0])
  obtain rfl:=FN.out
  obtain ⟨⟨LR,g0,g1,g2,g3,g4,g5,g6,g7,g8,g9,g10,g11,g12,g13⟩,⟨L2,r0,r1,r2,r3⟩,L3,s0,s1,s2,s3⟩:=o1.out _ jH.out
  go_wp2
  all_goals (try (exfalso;go_light;simp_all;done))
  go_ret2
  exact ⟨⟨_,rfl,OL.nil (aa fK.out jH.out).size⟩,(aa fK.out jH.out)⟩
 subst hE0
 obtain ⟨⟨LR,g0,g1,g2,g3,g4,g5,g6,g7,g8,g9,g10,g11,g12,g13⟩,⟨L2,r0,r1,r2,r3⟩,L3,s0,s1,s2,s3⟩:=o1.out _ jH.out
 go_wp2_with fail
 have xA:=hide (aa fK.out jH.out)
 refine (HB.out _ (HN.out.below xA.out) (eT.out.below xA.out) (HQ.out.below xA.out) (HW.out.below xA.out) (HC.out.below xA.out) (HR.out.below xA.out) (HO.out.below xA.out) (kr.out.below xA.out) (HZ.out.below xA.out) (by first|rfl|trivial)).mono ?_
 rintro e w5 ⟨⟨fv,rfl,hbad⟩,hb5⟩
 have kv:=hide (aa jH.out hb5)
 clear hb5
 have HBAD:=hide hbad
 have KG:=hide (bA (HZ0.out (by first|rfl|trivial)).2.1)
 have Ah:=hide (eQ KG.out.1 KG.out.2.1)
 have Rp:n3<=4096:=by have:=Ah.out.1;rw[HR.out.len]at this;exact this
 have HLEN:=hide HR.out.len
 have h63:=HR.out.le
 clear hbad
 obtain ⟨k9,IY,rfl,hcf,hcall⟩:=HBAD.out
 have Kj:=hide hcall
 clear hcall HBAD
 obtain ⟨W5,rfl⟩: ∃W,W=w5:=⟨_,rfl⟩
 have Vg:=hide (aa fK.out kv.out).size
 obtain ⟨-,⟨L2,r0,r1,r2,r3⟩, -⟩:=o1.out _ kv.out
 go_wp2
 go_loopw [12,31] (λo i wr=> ∃(k:Nat) (ys:List Ent),k<=n3/\i=.int .i64 k/\ys=(rows.take k).filter (λy=>VB y.row)/\ys.length<=k/\OE W5.heap.size wr o ys/\Below W5.heap.size W5 wr) (λ_ i _=>n3-(RowKit.intOf i).toNat)
 case atStart=>exact ⟨0,[],Nat.zero_le _,rfl,by simp,by simp,OL.nil (Nat.le_refl _),Below.refl _ _⟩
 case round=>
  obtain ⟨k,ys,hk,rfl,hys,hyl,hol,hb⟩:=hrel
  have Hg:=hide hys
  have sJ:=hide hol
  clear hys hol
  have mf:=hide hb
  clear hb
  by_cases hlt:k<n3
  ·have Sn:=hide (aa (aa fK.out kv.out) mf.out)
   obtain ⟨b,off,y,rfl,hBb,HX,Ax,An,Ac,e0,e1,e2,e3⟩:=(HR.out.below Sn.out).ent hlt
   have k0:(0:Int)<=(k:Int):=by omega
   have k1:(k:Int)<(n3:Int):=by omega
   have Kl:=hide (KG.out.2.2 y (aM HX.out))
   have HE2:=hide e2
   have Vj:=hide mf.out
   have R4:=hide (aa (aa fK.out kv.out) mf.out)
   clear e2
   have FD:=hide (aa kv.out mf.out)
   obtain ⟨-,⟨L2,r0,r1,r2,r3⟩, -⟩:=o1.out _ FD.out
   go_wp2_with fail
   refine (Kj.out _ (by exact aa mf.out af) _ _ _ y.row (by exact HE2.out.below af) Kl.out).mono ?_
   rintro e w8 ⟨rfl,uR⟩
   have x0:=ah (b:=wr.heap.size) (o:=0) (v:=.slice Ax An Ac) uR (by simp) (by simp[go_sem])
   have x1:=ah (b:=wr.heap.size) (o:=1) (v:=.int .i64 y.count) uR (by simp) (by simp[go_sem])
   have gP:=aa af uR
   clear e0 e1 uR
   have DI:=hide gP
   have jV:=hide (aa mf.out gP)
   clear gP
   have dI:=hide sJ.out.ne_new
   have Wh:=hide (HE2.out.below DI.out)
   have BX:=hide (sJ.out.below DI.out)
   have LX:=lt_of_cell x0
   have X0:=hide x0
   have X1:=hide x1
   have jk:=hide (aa (aa fK.out kv.out) jV.out)
   have l9:=hide jV.out
   have UJ:=hyl
   cases hv:VB y.row
   ·have HN:Hid (ys=(rows.take (k+1)).filter (λy=>VB y.row)):=hide (by rw[bP HX.out,List.filter_append,Hg.out,List.filter_cons_of_neg (by simp[hv])];simp)
    have lq:=hide (aa kv.out jV.out)
    obtain ⟨-,⟨L2,r0,r1,r2,r3⟩, -⟩:=o1.out _ lq.out
    go_wp2
    go_roundw
    case rel=>exact ⟨k+1,ys,by omega,by go_num,HN.out,by omega,BX.out,l9.out⟩
    case measure=>simp[RowKit.intOf];omega
   ·have HN:Hid (ys++[y]=(rows.take (k+1)).filter (λy=>VB y.row)):=hide (by rw[bP HX.out,List.filter_append,Hg.out,List.filter_cons_of_pos (by simp[hv])];simp)
    have xK:ys.length+1<=maxLen:=by simp only[maxLen];omega
    have xL:(ys.length+1)*32<=140737488355328:=by omega
    have hrl:An<=1048576:=by have h1:=HC.out.len;rw[<-HE2.out.len,iU Kl.out];omega
    have Ka:=hide (aa kv.out jV.out)
    obtain ⟨-,⟨L2,r0,r1,r2,r3⟩, -⟩:=o1.out _ Ka.out
    go_wp2
    go_region_held3 (λV=>V.cell? ⟨wr.heap.size,0,none⟩=some (.slice Ax An Ac)/\V.cell? ⟨wr.heap.size,1,none⟩=some (.int .i64 y.count))
     (first|exact ⟨y0,y1⟩|exact ⟨ah jE.out LX X0.out,ah jE.out LX X1.out⟩|exact ⟨x0,x1⟩|go_keep)
     (first
      |(go_at_call 63;refine (rX _ Ax An Ac y.row (by exact Wh.out.below (Below.refl _ _).drew) hrl).mono ?_;rintro e w6 ⟨⟨A6,c6,rfl,hs6⟩,hb6⟩;have jE:=hide (ag hb6);have PL:=hide (hs6.mono λk hk=>show BS W5.heap.size (λ_=>False) [74] w6 k from .inr ⟨Nat.le_trans l9.out.size hk.1,_,by simp,hk.2⟩);have Dv:=hide (BX.out.below jE.out);clear hs6 hb6)
      |(refine kG _ rfl _ _ _ rfl vR (by decide) w6 _ rfl Dv.out (by simp[Act.eval,Act.put]) (by simp[Act.eval,Act.put]) ⟨y.row,y.count⟩ ⟨_,_,_,rfl,PL.out,e3⟩ xK xL ?_;intro v9 w9 sU gP sI pM;have Aa:=hide sU;have y0:=(World.cell?_of_block (a:=⟨wr.heap.size,0,none⟩) (sI.block wr.heap.size (lt_of_cell (ah jE.out LX X0.out)) dI.out)).trans (ah jE.out LX X0.out);have y1:=(World.cell?_of_block (a:=⟨wr.heap.size,1,none⟩) (sI.block wr.heap.size (lt_of_cell (ah jE.out LX X1.out)) dI.out)).trans (ah jE.out LX X1.out);have qp:=hide (l9.out.trans ((jE.out.mono l9.out.size).trans gP));clear sU gP sI pM))
    go_wp2
    go_roundw
    case rel=>exact ⟨k+1,ys++[y],by omega,by go_num,HN.out,by simp;omega,Aa.out,qp.out⟩
    case measure=>simp[RowKit.intOf];omega
  ·have HT:Hid (ys=rows.filter λy=>VB y.row):=hide (by rw[Hg.out,List.take_of_length_le (by rw[HLEN.out];omega)])
   have FN:Hid (R=(0,ys)):=hide (by rw[HD.out,HT.out];simp)
   have BX:=hide sJ.out
   have jk:=hide (aa (aa fK.out kv.out) mf.out)
   obtain rfl:=FN.out
   have sZ:=hide (aa kv.out mf.out)
   obtain ⟨-,⟨L2,r0,r1,r2,r3⟩, -⟩:=o1.out _ sZ.out
   go_wp2
   go_ret2
   exact ⟨⟨_,rfl,BX.out.rebase Vg.out⟩,jk.out⟩
end Go.Proofs.YtggejcekmehocaaGreatDoor
