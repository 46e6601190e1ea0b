/-
  check.Violations. (Printed by gen_vioW.py.) check.Violations. (Printed by gen_vioW.py.) bag.Count: the count of a row. check.Judge. (Printed by gen_jdg.py.)
-/
import Derived.Test.YtggejcekmehocaaGreatDoorGba
import Derived.Test.YtggejcekmehocaaGreatDoorGaq
import Derived.Test.YtggejcekmehocaaGreatDoorGar
import Derived.Test.YtggejcekmehocaaGreatDoorGad
import Derived.Test.YtggejcekmehocaaGreatDoorGaa
import Derived.Test.YtggejcekmehocaaGreatDoorGai
import Derived.Test.YtggejcekmehocaaGreatDoorAppA
namespace Go.Proofs.YtggejcekmehocaaGreatDoor
set_option maxHeartbeats 4000000
set_option maxRecDepth 100000
open Go.RowKit Go.Maps
set_option linter.unusedSimpArgs false
set_option linter.unusedVariables false
theorem OL.ne_new {α:Type}[Rep α]{e:TypeId}{B:Nat}{O:Nat->Prop}{T:List TypeId}{w:World}{v:Value}{xs:List α}(h:OL e B O T w v xs):some w.heap.size≠v.ownBlock:=λq=>by
 have:=(h.ty q.symm).2.lt
 omega
theorem violations_any (w:World)(x:Chk)(A:Option Addr)(n c:Nat)(hn:In w A n c x.cols)(A':Option Addr)(n' c':Nat)(hn':In w A' n' c' x.ocols)(A'':Option Addr)(n'' c'':Nat)(hq:In w A'' n'' c'' x.cond)(hw:Words w)(rn:ByteArray)(A1:Option Addr)(n1 c1:Nat)(cols:List Col)(hc:In w A1 n1 c1 cols)(Ak:Option Addr)(nk ck:Nat)(A3:Option Addr)(n3 c3:Nat)(rows:List Ent)(hr:In w A3 n3 c3 rows)(on:ByteArray)(A2:Option Addr)(n2 c2:Nat)(ocols:List Col)(ho:In w A2 n2 c2 ocols)(Al:Option Addr)(nl cl:Nat)(A4:Option Addr)(n4 c4:Nat)(orows:List Ent)(hor:In w A4 n4 c4 orows)(A5:Option Addr)(n5 c5:Nat)(zs:List Zone)(hz:In w A5 n5 c5 zs)(hb0:n<=4096)(hb1:n'<=4096)(hb2:n1<=4096)(hb3:n2<=4096):
  Calls Tryz.prog 29 #[.agg (chkCells x A n c A' n' c' A'' n'' c'').toArray,.agg #[.string rn,.slice A1 n1 c1,.slice Ak nk ck,.slice A3 n3 c3],.agg #[.string on,.slice A2 n2 c2,.slice Al nl cl,.slice A4 n4 c4],.slice A5 n5 c5] w
   λe w'=>(∃v,e=.returned (.tuple #[v,.int .i64 (violS x cols ocols rows orows zs).1])/\OE w.heap.size w' v (violS x cols ocols rows orows zs).2)/\Below w.heap.size w w':=by
 have HA:=hide λW hn hn' hq hw hc hr ho hor hz=>checkAll_any W x A n c hn A' n' c' hn' A'' n'' c'' hq hw rn A1 n1 c1 cols hc Ak nk ck A3 n3 c3 rows hr on A2 n2 c2 ocols ho Al nl cl A4 n4 c4 orows hor A5 n5 c5 zs hz hb0 hb1 hb2 hb3
 have HB:=hide λW hn hn' hq hw hc hr ho hor hz hE=>violated_any W x A n c hn A' n' c' hn' A'' n'' c'' hq hw rn A1 n1 c1 cols hc Ak nk ck A3 n3 c3 rows hr on A2 n2 c2 ocols ho Al nl cl A4 n4 c4 orows hor A5 n5 c5 zs hz hb0 hb1 hb2 hb3 hE
 have HD:=hide (show violS x cols ocols rows orows zs=if allErr x cols ocols rows orows zs≠0 then (allErr x cols ocols rows orows zs,[]) else (0,rows.filter λy=>violB x cols ocols rows orows zs y.row) from rfl)
 have HZ0:=hide (λh=>all_zero (c:=x) (rc:=cols) (oc:=ocols) (rr:=rows) (orr:=orows) (zs:=zs) h)
 obtain ⟨R,hR⟩: ∃R,violS x cols ocols rows orows zs=R:=⟨_,rfl⟩
 obtain ⟨E,hE⟩: ∃E,allErr x cols ocols rows orows zs=E:=⟨_,rfl⟩
 obtain ⟨VB,hVB⟩: ∃V,violB x cols ocols rows orows zs=V:=⟨_,rfl⟩
 rw[hR,hE]at HD
 rw[hE]at HA HZ0
 rw[hVB]at HD HB
 simp only[hE]at HB
 rw[hR]
 clear hR hE hVB
 simp only[chkCells]at HA HB⊢
 go_enter Tryz.func29,Tryz.ntmps29
 have HN:=hide hn
 clear hn
 have HN2:=hide hn'
 clear hn'
 have HQ:=hide hq
 clear hq
 have HW:=hide hw
 clear hw
 have HC:=hide hc
 clear hc
 have HO:=hide ho
 clear ho
 have HZ:=hide hz
 clear hz
 have HR:=hide hr
 clear hr
 have HOR:=hide hor
 clear hor
 go_wp2_with fail
 obtain ⟨W3,hW3,SZW3,hbW3,o1⟩:=start28 w x A n c A' n' c' A'' n'' c'' rn A1 n1 c1 Ak nk ck A3 n3 c3 on A2 n2 c2 Al nl cl A4 n4 c4
 rw[<-hW3]
 clear hW3
 have SG2:=hide hbW3
 clear hbW3
 obtain ⟨⟨LR,g0,g1,g2,g3,g4,g5,g6,g7,g8,g9,g10,g11,g12,g13⟩,⟨L2,r0,r1,r2,r3⟩,L3,s0,s1,s2,s3⟩:=o1.out _ (Below.refl _ _)
 go_wp2_with fail
 refine (HA.out _ (HN.out.below SG2.out) (HN2.out.below SG2.out) (HQ.out.below SG2.out) (HW.out.below SG2.out) (HC.out.below SG2.out) (HR.out.below SG2.out) (HO.out.below SG2.out) (HOR.out.below SG2.out) (HZ.out.below SG2.out)).mono ?_
 rintro e w3 ⟨rfl,hb3⟩
 have SG4:=hide hb3
 clear hb3
 by_cases hE0:E=0
 rotate_left
 ·have q0:(E != 0)=true:=by simpa using hE0
  have HRE:Hid (R=(E,[])):=hide (by rw[HD.out,if_pos hE0])
  obtain rfl:=HRE.out
  obtain ⟨⟨LR,g0,g1,g2,g3,g4,g5,g6,g7,g8,g9,g10,g11,g12,g13⟩,⟨L2,r0,r1,r2,r3⟩,L3,s0,s1,s2,s3⟩:=o1.out _ SG4.out
  go_wp2
  all_goals (try (exfalso;go_light;simp_all;done))
  go_ret2
  exact ⟨⟨_,rfl,OL.nil (below_trans SG2.out SG4.out).size⟩,(below_trans SG2.out SG4.out)⟩
 subst hE0
 obtain ⟨⟨LR,g0,g1,g2,g3,g4,g5,g6,g7,g8,g9,g10,g11,g12,g13⟩,⟨L2,r0,r1,r2,r3⟩,L3,s0,s1,s2,s3⟩:=o1.out _ SG4.out
 go_wp2_with fail
 have BC6:=hide (below_trans SG2.out SG4.out)
 refine (HB.out _ (HN.out.below BC6.out) (HN2.out.below BC6.out) (HQ.out.below BC6.out) (HW.out.below BC6.out) (HC.out.below BC6.out) (HR.out.below BC6.out) (HO.out.below BC6.out) (HOR.out.below BC6.out) (HZ.out.below BC6.out) (by first|rfl|trivial)).mono ?_
 rintro e w5 ⟨⟨fv,rfl,hbad⟩,hb5⟩
 have SG7:=hide (below_trans SG4.out hb5)
 clear hb5
 have HBAD:=hide hbad
 have HTZ:=hide (tabErr_zero (HZ0.out (by first|rfl|trivial)).2.1)
 have HRL:=hide (bag_zero HTZ.out.1 HTZ.out.2.1)
 have hn3:n3<=4096:=by have:=HRL.out.1;rw[HR.out.len]at this;exact this
 have HLEN:=hide HR.out.len
 have h63:=HR.out.le
 clear hbad
 obtain ⟨k9,caps,rfl,hcf,hcall⟩:=HBAD.out
 have HCALL:=hide hcall
 clear hcall HBAD
 obtain ⟨W5,rfl⟩: ∃W,W=w5:=⟨_,rfl⟩
 have HOS:=hide (below_trans SG2.out SG7.out).size
 obtain ⟨-,⟨L2,r0,r1,r2,r3⟩, -⟩:=o1.out _ SG7.out
 go_wp2
 go_loopw [12,31] (λo i wr=> ∃(k:Nat) (ys:List Ent),k<=n3/\i=.int .i64 k/\ys=(rows.take k).filter (λy=>VB y.row)/\ys.length<=k/\OE W5.heap.size wr o ys/\Below W5.heap.size W5 wr) (λ_ i _=>n3-(RowKit.intOf i).toNat)
 case atStart=>exact ⟨0,[],Nat.zero_le _,rfl,by simp,by simp,OL.nil (Nat.le_refl _),Below.refl _ _⟩
 case round=>
  obtain ⟨k,ys,hk,rfl,hys,hyl,hol,hb⟩:=hrel
  have HYS:=hide hys
  have HOL:=hide hol
  clear hys hol
  have SG8:=hide hb
  clear hb
  by_cases hlt:k<n3
  ·have BC9:=hide (below_trans (below_trans SG2.out SG7.out) SG8.out)
   obtain ⟨b,off,y,rfl,hBb,HX,Ax,An,Ac,e0,e1,e2,e3⟩:=(HR.out.below BC9.out).ent hlt
   have k0:(0:Int)<=(k:Int):=by omega
   have k1:(k:Int)<(n3:Int):=by omega
   have HFIT:=hide (HTZ.out.2.2 y (mem_of_drop HX.out))
   have HE2:=hide e2
   have HWR:=hide SG8.out
   have HWB:=hide (below_trans (below_trans SG2.out SG7.out) SG8.out)
   clear e2
   have BC10:=hide (below_trans SG7.out SG8.out)
   obtain ⟨-,⟨L2,r0,r1,r2,r3⟩, -⟩:=o1.out _ BC10.out
   go_wp2_with fail
   refine (HCALL.out _ (by exact below_trans SG8.out below_alloc) _ _ _ y.row (by exact HE2.out.below below_alloc) HFIT.out).mono ?_
   rintro e w8 ⟨rfl,hb8⟩
   have x0:=bat (b:=wr.heap.size) (o:=0) (v:=.slice Ax An Ac) hb8 (by simp) (by simp[go_sem])
   have x1:=bat (b:=wr.heap.size) (o:=1) (v:=.int .i64 y.count) hb8 (by simp) (by simp[go_sem])
   have hb9:=below_trans below_alloc hb8
   clear e0 e1 hb8
   have LST11:=hide hb9
   have SG11:=hide (below_trans SG8.out hb9)
   clear hb9
   have HNE:=hide HOL.out.ne_new
   have HE8:=hide (HE2.out.below LST11.out)
   have HOL8:=hide (HOL.out.below LST11.out)
   have LX:=lt_of_cell x0
   have X0:=hide x0
   have X1:=hide x1
   have HBW:=hide (below_trans (below_trans SG2.out SG7.out) SG11.out)
   have HLW:=hide SG11.out
   have hyl2:=hyl
   cases hv:VB y.row
   ·have HN:Hid (ys=(rows.take (k+1)).filter (λy=>VB y.row)):=hide (by rw[take_snoc HX.out,List.filter_append,HYS.out,List.filter_cons_of_neg (by simp[hv])];simp)
    have BC12:=hide (below_trans SG7.out SG11.out)
    obtain ⟨-,⟨L2,r0,r1,r2,r3⟩, -⟩:=o1.out _ BC12.out
    go_wp2
    go_roundw
    case rel=>exact ⟨k+1,ys,by omega,by go_num,HN.out,by omega,HOL8.out,HLW.out⟩
    case measure=>simp[RowKit.intOf];omega
   ·have HN:Hid (ys++[y]=(rows.take (k+1)).filter (λy=>VB y.row)):=hide (by rw[take_snoc HX.out,List.filter_append,HYS.out,List.filter_cons_of_pos (by simp[hv])];simp)
    have hk63:ys.length+1<=maxLen:=by simp only[maxLen];omega
    have hk64:(ys.length+1)*32<=140737488355328:=by omega
    have hrl:An<=1048576:=by have h1:=HC.out.len;rw[<-HE2.out.len,rowErr_len HFIT.out];omega
    have BC13:=hide (below_trans SG7.out SG11.out)
    obtain ⟨-,⟨L2,r0,r1,r2,r3⟩, -⟩:=o1.out _ BC13.out
    go_wp2
    go_region_held3 (λV=>V.cell? ⟨wr.heap.size,0,none⟩=some (.slice Ax An Ac)/\V.cell? ⟨wr.heap.size,1,none⟩=some (.int .i64 y.count))
     (first|exact ⟨y0,y1⟩|exact ⟨bat HB6.out LX X0.out,bat HB6.out LX X1.out⟩|exact ⟨x0,x1⟩|go_keep)
     (first
      |(go_at_call 63;refine (clone_any _ Ax An Ac y.row (by exact HE8.out.below (Below.refl _ _).drew) hrl).mono ?_;rintro e w6 ⟨⟨A6,c6,rfl,hs6⟩,hb6⟩;have HB6:=hide (below_undrew hb6);have HS6:=hide (hs6.mono λk hk=>show BS W5.heap.size (λ_=>False) [74] w6 k from .inr ⟨Nat.le_trans HLW.out.size hk.1,_,by simp,hk.2⟩);have HO6:=hide (HOL8.out.below HB6.out);clear hs6 hb6)
      |(refine step_push_OL _ rfl _ _ _ rfl elem_ents (by decide) w6 _ rfl HO6.out (by simp[Act.eval,Act.put]) (by simp[Act.eval,Act.put]) ⟨y.row,y.count⟩ ⟨_,_,_,rfl,HS6.out,e3⟩ hk63 hk64 ?_;intro v9 w9 ho9 hb9 hg9 hat9;have HO9:=hide ho9;have y0:=(World.cell?_of_block (a:=⟨wr.heap.size,0,none⟩) (hg9.block wr.heap.size (lt_of_cell (bat HB6.out LX X0.out)) HNE.out)).trans (bat HB6.out LX X0.out);have y1:=(World.cell?_of_block (a:=⟨wr.heap.size,1,none⟩) (hg9.block wr.heap.size (lt_of_cell (bat HB6.out LX X1.out)) HNE.out)).trans (bat HB6.out LX X1.out);have HB9:=hide (HLW.out.trans ((HB6.out.mono HLW.out.size).trans hb9));clear ho9 hb9 hg9 hat9))
    go_wp2
    go_roundw
    case rel=>exact ⟨k+1,ys++[y],by omega,by go_num,HN.out,by simp;omega,HO9.out,HB9.out⟩
    case measure=>simp[RowKit.intOf];omega
  ·have HT:Hid (ys=rows.filter λy=>VB y.row):=hide (by rw[HYS.out,List.take_of_length_le (by rw[HLEN.out];omega)])
   have HRE:Hid (R=(0,ys)):=hide (by rw[HD.out,HT.out];simp)
   have HOL8:=hide HOL.out
   have HBW:=hide (below_trans (below_trans SG2.out SG7.out) SG8.out)
   obtain rfl:=HRE.out
   have BC14:=hide (below_trans SG7.out SG8.out)
   obtain ⟨-,⟨L2,r0,r1,r2,r3⟩, -⟩:=o1.out _ BC14.out
   go_wp2
   go_ret2
   exact ⟨⟨_,rfl,HOL8.out.rebase HOS.out⟩,HBW.out⟩
open Go.RowKit
theorem count_any (w:World)(A:Option Addr)(n c:Nat)(bs:List Ent)(hx:In w A n c bs)(A2:Option Addr)(n2 c2:Nat)(row:List Val)(hy:In w A2 n2 c2 row):
  Calls Tryz.prog 54 #[.slice A n c,.slice A2 n2 c2] w λe w'=>e=.returned (.int .i64 (cntF bs row))/\Below w.heap.size w w':=by
 obtain ⟨R,hR⟩: ∃R,cntF bs row=R:=⟨_,rfl⟩
 have HR:=hide hR
 rw[hR]
 clear hR
 have HL:=hide hx.len
 have h63:=hx.le
 go_enter Tryz.func54,Tryz.ntmps54
 have HX:=hide hx
 clear hx
 have HY:=hide hy
 clear hy
 go_wp2
 go_loopw [9] (λi wr=> ∃k:Nat,k<=n/\i=.int .i64 k/\R=cntF (bs.drop k) row/\Below w.heap.size w wr) (λi _=>n-(RowKit.intOf i).toNat)
 case atStart=>exact ⟨0,Nat.zero_le _,rfl,HR.out.symm,Below.refl _ _⟩
 case round=>
  obtain ⟨k,hk,rfl,heq,hb⟩:=hrel
  have HE:=hide heq
  clear heq
  have HX:=hide (HX.out.below hb)
  have HY:=hide (HY.out.below hb)
  have SG1:=hide hb
  clear hb
  by_cases hlt:k<n
  ·obtain ⟨b,off,x,rfl,hBb,HX1,Ax,An,Ac,e0,e1,e2,e3⟩:=HX.out.ent hlt
   have HI:=hide e2
   clear e2
   go_wp2_with fail
   obtain ⟨W6,hW6⟩: ∃W,W=wr.alloc (.cells #[.slice Ax An Ac,.int .i64 x.count] 61):=⟨_,rfl⟩
   obtain ⟨hbW6,SZW6,x0,x1⟩:=boxed2 hW6 rfl
   rw[<-hW6]
   clear hW6
   have HY:=hide (HY.out.below hbW6)
   have LST2:=hide hbW6
   have SG2:=hide (below_trans SG1.out hbW6)
   clear hbW6
   have L6:=lt_of_cell x0
   have HI6:=hide (HI.out.below LST2.out)
   go_wp2_with fail
   refine (compareRows_any _ Ax A2 An n2 Ac c2 x.row row (by exact HI6.out) HY.out).mono ?_
   rintro e w3 ⟨rfl,hb3⟩
   obtain ⟨x0,x1,L6⟩:=bats2 hb3 L6 x0 x1
   have SG4:=hide (below_trans SG2.out hb3)
   clear hb3
   obtain ⟨Q,hQ⟩: ∃Q,cmpRows x.row row=Q:=⟨_,rfl⟩
   have HQ:=hide hQ
   rw[hQ]
   clear hQ
   have HLW:=hide SG4.out
   have HBW:=hide SG4.out
   by_cases hq:Q=0
   ·subst hq
    obtain rfl:R=x.count:=by rw[HE.out,HX1.out,cntF,if_pos HQ.out]
    go_wp2
    all_goals (try (exfalso;go_light;simp_all;done))
    go_ret
    exact ⟨rfl,HBW.out⟩
   ·have q0:(Q==0)=false:=by simpa using hq
    have HN:Hid (R=cntF (bs.drop (k+1)) row):=hide (by rw[HE.out,HX1.out,cntF,if_neg (by rw[HQ.out];exact hq)])
    go_wp2
    all_goals (try (exfalso;go_light;simp_all;done))
    go_roundw
    case rel=>exact ⟨k+1,by omega,by go_num,HN.out,HLW.out⟩
    case measure=>simp[RowKit.intOf];omega
  ·obtain rfl:R=0:=by rw[HE.out,drop_end HX.out.len (by omega)];rfl
   have HBW:=hide SG1.out
   go_wp2
   go_ret
   exact ⟨rfl,HBW.out⟩
structure Ver where
 name:ByteArray
 bad:Bool
 rows:Int
 part:Int
 whole:Int
def Ver.cells (v:Ver):List Value:=[.string v.name,.bool v.bad,.int .i64 v.rows,.int .i64 v.part,.int .i64 v.whole]
structure VerAt (w:World) (g:Nat) (v:Ver):Prop where
 c0:w.cell? ⟨g,0,none⟩=some (.string v.name)
 c1:w.cell? ⟨g,1,none⟩=some (.bool v.bad)
 c2:w.cell? ⟨g,2,none⟩=some (.int .i64 v.rows)
 c3:w.cell? ⟨g,3,none⟩=some (.int .i64 v.part)
 c4:w.cell? ⟨g,4,none⟩=some (.int .i64 v.whole)
 fz: ∀o,w.frozen? ⟨g,o,none⟩=false
theorem VerAt.lt {w:World}{g:Nat}{v:Ver}(h:VerAt w g v):g<w.heap.size:=lt_of_cell h.c0
theorem VerAt.below {w w':World}{g:Nat}{v:Ver}(h:VerAt w g v)(hb:Below w.heap.size w w'):VerAt w' g v:=
 ⟨bat hb h.lt h.c0,bat hb h.lt h.c1,bat hb h.lt h.c2,bat hb h.lt h.c3,bat hb h.lt h.c4,λo=>((bcell hb).2 g o h.lt).trans (h.fz o)⟩
theorem frozen_set {w:World}{g:Nat}(h: ∀o,w.frozen? ⟨g,o,none⟩=false)(b o:Nat)(u:Value): ∀o',(w.setCell ⟨b,o,none⟩ u).frozen? ⟨g,o',none⟩=false:=λo'=>by
 rw[World.frozen?_setCell];exact h o'
theorem VerAt.set3 {w:World}{g:Nat}{v:Ver}(h:VerAt w g v)(p:Int):VerAt (w.setCell ⟨g,3,none⟩ (.int .i64 p)) g {v with part:=p}:=
 ⟨set_far h.c0 (.inr (by omega)),set_far h.c1 (.inr (by omega)),set_far h.c2 (.inr (by omega)),set_same h.c3,set_far h.c4 (.inr (by omega)),frozen_set h.fz _ _ _⟩
theorem VerAt.set4 {w:World}{g:Nat}{v:Ver}(h:VerAt w g v)(p:Int):VerAt (w.setCell ⟨g,4,none⟩ (.int .i64 p)) g {v with whole:=p}:=
 ⟨set_far h.c0 (.inr (by omega)),set_far h.c1 (.inr (by omega)),set_far h.c2 (.inr (by omega)),set_far h.c3 (.inr (by omega)),set_same h.c4,frozen_set h.fz _ _ _⟩
theorem ol_inn {α:Type}[Rep α]{e:TypeId}{B:Nat}{O:Nat->Prop}{T:List TypeId}{w:World}{v:Value}{xs:List α}(h:OL e B O T w v xs): ∃A c,v=.slice A xs.length c/\In w A xs.length c xs:=h.inn
end Go.Proofs.YtggejcekmehocaaGreatDoor
