/-
  check.checkColumns.
-/
import Derived.Test.YtggejcekmehocaaGreatDoorGav
namespace Go.Proofs.YtggejcekmehocaaGreatDoor
set_option maxHeartbeats 4000000
set_option maxRecDepth 100000
open Go.RowKit
set_option linter.unusedSimpArgs false
set_option linter.unusedVariables false
def mV (cols ocols:List Col)(p:Int×Int):Bool:=(cols.getD p.1.toNat default).kind != (ocols.getD p.2.toNat default).kind
def bZ (sg U:Bool)(ie:Int)(is:List Int)(k0 ce oe:Int)(os:List Int)(df:Bool):Int:=
 if ie≠0 then ie else if is.length=0\/(sg=true/\1<is.length) then 8 else if sg=true/\k0≠2 then 7 else if U=false then 0
 else if ce≠0 then ce else if oe≠0 then oe else if is.length≠os.length then 8 else if df=true then 7 else 0
theorem pI (c:Chk)(cols ocols:List Col):jA c cols ocols=
  bZ (c.kind==2 || c.kind==6) (iL c.kind) (bD cols c.cols).1 (bD cols c.cols).2 (cols.getD ((bD cols c.cols).2.getD 0 0).toNat default).kind (aD ocols) (bD ocols c.ocols).1 (bD ocols c.ocols).2 ((List.zip (bD cols c.cols).2 (bD ocols c.ocols).2).any (mV cols ocols)):=by
 simp only[jA,bZ,Bool.or_eq_true,beq_iff_eq]
 rfl
theorem lH {cols:List Col}{names:List ByteArray}(h:(bD cols names).1=0): ∀y∈(bD cols names).2,0<=y/\y<(cols.length:Int):=λy hy=>by
 obtain ⟨h1,h2,_⟩:=fC h
 rw[h1]at hy
 obtain ⟨s,hs,rfl⟩:=List.mem_map.1 hy
 exact h2 s hs
theorem dW {α:Type}{xs:List α}{k:Nat}{x d:α}{l:List α}(h:xs.drop k=x :: l):xs.getD k d=x:=by
 rw[List.getD_eq_getElem?_getD,(dS h).1];rfl
theorem vK (w:World)(x:Chk)(A:Option Addr)(n c:Nat)(hn:In w A n c x.cols)(A':Option Addr)(n' c':Nat)(hn':In w A' n' c' x.ocols)(aY:Option Addr)(n'' c'':Nat)(A1:Option Addr)(n1 c1:Nat)(cols:List Col)(hc:In w A1 n1 c1 cols)(A2:Option Addr)(n2 c2:Nat)(ocols:List Col)(ho:In w A2 n2 c2 ocols)(hb0:n<=4096)(hb1:n'<=4096)(hb2:n1<=4096)(hb3:n2<=4096):
  Calls Tryz.prog 134 #[.agg (ax x A n c A' n' c' aY n'' c'').toArray,.slice A1 n1 c1,.slice A2 n2 c2] w λe w'=>e=.returned (.int .i64 (jA x cols ocols))/\Below w.heap.size w w':=by
 have HD:=hide (pI x cols ocols)
 have HI1:=hide λW hx hy=>ry W A1 n1 c1 cols hx A n c x.cols hy (by omega) (by omega)
 have HI2:=hide λW hx hy=>ry W A2 n2 c2 ocols hx A' n' c' x.ocols hy (by omega) (by omega)
 have HR1:=hide (λh=>lH (cols:=cols) (names:=x.cols) h)
 have HR2:=hide (λh=>lH (cols:=ocols) (names:=x.ocols) h)
 have ym:=hide (Nat.le_trans (jM cols x.cols) (by rw[hn.len];exact hb0))
 have yo:=hide (Nat.le_trans (jM ocols x.ocols) (by rw[hn'.len];exact hb1))
 have Iz:=hide hc.len
 have sJ:=hide ho.len
 obtain ⟨R,hR⟩: ∃R,jA x cols ocols=R:=⟨_,rfl⟩
 obtain ⟨I1,hI1⟩: ∃I,bD cols x.cols=I:=⟨_,rfl⟩
 obtain ⟨I2,hI2⟩: ∃I,bD ocols x.ocols=I:=⟨_,rfl⟩
 obtain ⟨U,hU⟩: ∃U,iL x.kind=U:=⟨_,rfl⟩
 rw[hR,hI1,hI2,hU]at HD
 rw[hI1]at HI1 HR1 ym
 rw[hI2]at HI2 HR2 yo
 rw[hR]
 have HU:=hide hU
 clear hR hI1 hI2 hU
 obtain ⟨ie,is⟩:=I1
 obtain ⟨oe,os⟩:=I2
 simp only at HD HI1 HI2 HR1 HR2 ym yo
 obtain ⟨K0,Gd⟩: ∃K,(cols.getD (is.getD 0 0).toNat default).kind=K:=⟨_,rfl⟩
 rw[Gd]at HD
 have NG:=hide Gd
 clear Gd
 obtain ⟨CE,Cy⟩: ∃CE,aD ocols=CE:=⟨_,rfl⟩
 rw[Cy]at HD
 have J5:=hide Cy
 obtain ⟨sg,hsg⟩: ∃s,(x.kind==2 || x.kind==6)=s:=⟨_,rfl⟩
 rw[hsg]at HD
 clear Cy
 have hk:((x.kind==2)=true/\sg=true)\/((x.kind==2)=false/\(x.kind==6)=true/\sg=true)\/((x.kind==2)=false/\(x.kind==6)=false/\sg=false):=by
  cases h1:(x.kind==2) <;> cases h2:(x.kind==6) <;> simp[h1,h2]at hsg <;> simp[hsg]
 clear hsg
 simp only[ax]
 rcases hk with ⟨h2,rfl⟩|⟨h2,h6,rfl⟩|⟨h2,h6,rfl⟩
 ·go_enter Tryz.func134,Tryz.ntmps134
  have HN:=hide hn
  clear hn
  have eT:=hide hn'
  clear hn'
  have HC:=hide hc
  clear hc
  have HO:=hide ho
  clear ho
  go_wp2_with fail
  obtain ⟨W1,hW1⟩: ∃W,W=w.alloc (.cells #[.string x.name,.string x.table,.int .i64 x.kind,.slice A n c,.string x.other,.slice A' n' c',.int .i64 x.low,.int .i64 x.high,.slice aY n'' c'',.int .i64 x.ln,.int .i64 x.ld,.int .i64 x.mn,.int .i64 x.md,.int .i64 x.policy] 27):=⟨_,rfl⟩
  obtain ⟨hbW1,fO,g0,g1,g2,g3,g4,g5,g6,g7,g8,g9,g10,g11,g12,g13⟩:=dE hW1 rfl
  rw[<-hW1]
  clear hW1
  have HN:=hide (HN.out.below hbW1)
  have eT:=hide (eT.out.below hbW1)
  have HC:=hide (HC.out.below hbW1)
  have HO:=hide (HO.out.below hbW1)
  have qA:=hide hbW1
  clear hbW1
  have LR:=lt_of_cell g0
  go_wp2_with fail
  refine (HI1.out _ (by exact HC.out) (by exact HN.out)).mono ?_
  rintro e w1 ⟨⟨v,rfl,hov⟩,hb1⟩
  obtain ⟨A4,c4,rfl⟩:=hov.form
  obtain ⟨m,hm⟩: ∃m,is.length=m:=⟨_,rfl⟩
  have ze:=gD hov rfl
  rw[hm]at ze⊢
  have HM:=hide hm
  clear hov hm
  have HN:=hide (HN.out.below hb1)
  have eT:=hide (eT.out.below hb1)
  have HC:=hide (HC.out.below hb1)
  have HO:=hide (HO.out.below hb1)
  obtain ⟨g0,g1,g2,g3,g4,g5,g6,g7,g8,g9,g10,g11,g12,g13,LR⟩:=eB hb1 LR g0 g1 g2 g3 g4 g5 g6 g7 g8 g9 g10 g11 g12 g13
  have fK:=hide (aa qA.out hb1)
  clear hb1
  have HK:=hide ze
  clear ze
  by_cases h0:ie=0
  rotate_left
  ·have q0:(ie != 0)=true:=by simpa using h0
   obtain rfl:R=ie:=by rw[HD.out,bZ,if_pos h0]
   go_wp2
   all_goals (try (exfalso;go_light;simp_all;done))
   go_ret
   exact ⟨rfl,fK.out⟩
  subst h0
  by_cases hmz:m=0
  ·subst hmz
   obtain rfl:R=8:=by rw[HD.out,bZ];simp[HM.out]
   go_wp2
   all_goals (try (exfalso;go_light;simp_all;done))
   go_ret
   exact ⟨rfl,fK.out⟩
  have qz:((m:Int)==0)=false:=by simpa using hmz
  have oU:=hide hmz
  by_cases hm1:1<m
  ·have q1:decide (1<(m:Int))=true:=by simp;omega
   obtain rfl:R=8:=by rw[HD.out,bZ];simp[HM.out,hm1]
   go_wp2
   all_goals (try (exfalso;go_light;simp_all;done))
   go_ret
   exact ⟨rfl,fK.out⟩
  have q1:decide (1<(m:Int))=false:=by simp;omega
  have uh:=hide hm1
  obtain ⟨b0,o0,j0,rfl,qy,HX0,e0,_⟩:=HK.out.int (k:=0) (by omega)
  rw[Nat.add_zero]at e0
  have hr0:=HR1.out (by first|rfl|trivial) j0 (aM HX0.out)
  rw[Iz.out]at hr0
  obtain ⟨i0,rfl⟩: ∃i:Nat,j0=(i:Int):=⟨j0.toNat,by omega⟩
  obtain ⟨bc,oc,y0,rfl,Ri,HZ0,_,p0,_,_⟩:=HC.out.col (k:=i0) (by omega)
  have XQ:(0:Int)<=(i0:Int):=by omega
  have XR:(i0:Int)<(n1:Int):=hr0.2
  have U7:(0:Int)<(m:Int):=by omega
  obtain ⟨k5,hk5⟩: ∃q,y0.kind=q:=⟨_,rfl⟩
  have e5:K0=k5:=by
   rw[<-NG.out,dW HX0.out,<-hk5]
   simp only[Int.toNat_natCast]
   rw[dW HZ0.out]
  rw[hk5]at p0
  subst e5
  clear hk5 hr0 HX0 HZ0
  by_cases hk2:K0=2
  rotate_left
  ·have q2:(K0 != 2)=true:=by simpa using hk2
   obtain rfl:R=7:=by rw[HD.out,bZ];simp[HM.out,oU.out,uh.out,hk2]
   go_wp2
   all_goals (try (exfalso;go_light;simp_all;done))
   go_ret
   exact ⟨rfl,fK.out⟩
  subst hk2
  have q2:((2:Int) != 2)=false:=by decide
  go_wp2_with fail
  refine (sD _ x.kind).mono ?_
  rintro e w3 ⟨rfl,hb3⟩
  have HN:=hide (HN.out.below hb3)
  have eT:=hide (eT.out.below hb3)
  have HC:=hide (HC.out.below hb3)
  have HO:=hide (HO.out.below hb3)
  have HK:=hide (HK.out.below hb3)
  obtain ⟨g0,g1,g2,g3,g4,g5,g6,g7,g8,g9,g10,g11,g12,g13,LR⟩:=eB hb3 LR g0 g1 g2 g3 g4 g5 g6 g7 g8 g9 g10 g11 g12 g13
  have jH:=hide (aa fK.out hb3)
  clear hb3
  rw[HU.out]
  cases U
  ·obtain rfl:R=0:=by rw[HD.out,bZ];simp[HM.out,oU.out,uh.out]
   go_wp2
   all_goals (try (exfalso;go_light;simp_all;done))
   go_ret
   exact ⟨rfl,jH.out⟩
  go_wp2_with fail
  refine (oo _ A2 n2 c2 ocols HO.out).mono ?_
  rintro e w5 ⟨rfl,hb5⟩
  have HN:=hide (HN.out.below hb5)
  have eT:=hide (eT.out.below hb5)
  have HC:=hide (HC.out.below hb5)
  have HO:=hide (HO.out.below hb5)
  have HK:=hide (HK.out.below hb5)
  obtain ⟨g0,g1,g2,g3,g4,g5,g6,g7,g8,g9,g10,g11,g12,g13,LR⟩:=eB hb5 LR g0 g1 g2 g3 g4 g5 g6 g7 g8 g9 g10 g11 g12 g13
  have uw:=hide (aa jH.out hb5)
  clear hb5
  rw[J5.out]
  by_cases hce:CE=0
  ·subst hce
   go_wp2_with fail
   refine (HI2.out _ (by exact HO.out) (by exact eT.out)).mono ?_
   rintro e w7 ⟨⟨v2,rfl,mO⟩,dC⟩
   obtain ⟨A5,c5,rfl⟩:=mO.form
   obtain ⟨m2,hm2⟩: ∃m,os.length=m:=⟨_,rfl⟩
   have yZ:=gD mO rfl
   rw[hm2]at yZ⊢
   have vD:=hide hm2
   clear mO hm2
   have HN:=hide (HN.out.below dC)
   have HC:=hide (HC.out.below dC)
   have HO:=hide (HO.out.below dC)
   have HK:=hide (HK.out.below dC)
   obtain ⟨g0,g1,g2,g3,g4,g5,g6,g7,g8,g9,g10,g11,g12,g13,LR⟩:=eB dC LR g0 g1 g2 g3 g4 g5 g6 g7 g8 g9 g10 g11 g12 g13
   have kv:=hide (aa uw.out dC)
   clear dC
   have wG:=hide yZ
   clear yZ
   by_cases hoe:oe=0
   ·subst hoe
    by_cases hmm:m=m2
    ·subst hmm
     have HD2:Hid (R=if (List.zip is os).any (mV cols ocols)=true then 7 else 0):=hide (by rw[HD.out,bZ];simp[HM.out,oU.out,uh.out,vD.out])
     obtain ⟨W5,rfl⟩: ∃W,W=w7:=⟨_,rfl⟩
     have h63:=HK.out.le
     go_wp2
     go_loopw [83] (λi wr=> ∃k:Nat,k<=m/\i=.int .i64 k/\(List.zip is os).any (mV cols ocols)=((List.zip is os).drop k).any (mV cols ocols)/\Below W5.heap.size W5 wr) (λi _=>m-(RowKit.intOf i).toNat)
     case atStart=>exact ⟨0,Nat.zero_le _,rfl,rfl,Below.refl _ _⟩
     case round=>
      obtain ⟨k,hk,rfl,heq,hb⟩:=hrel
      have HE:=hide heq
      clear heq
      have HN:=hide (HN.out.below hb)
      have HC:=hide (HC.out.below hb)
      have HO:=hide (HO.out.below hb)
      have HK:=hide (HK.out.below hb)
      have wG:=hide (wG.out.below hb)
      obtain ⟨g0,g1,g2,g3,g4,g5,g6,g7,g8,g9,g10,g11,g12,g13,LR⟩:=eB hb LR g0 g1 g2 g3 g4 g5 g6 g7 g8 g9 g10 g11 g12 g13
      have mf:=hide hb
      clear hb
      clear g0 g1 g2 g3 g4 g5 g6 g7 g8 g9 g10 g11 g12 g13
      by_cases hlt:k<m
      ·obtain ⟨b,off,j1,uO,hBb,HX,e0,_⟩:=HK.out.int hlt
       first|(subst uO)|(injection uO with uO;injection uO with hA5 hA6;subst hA5;subst hA6)
       obtain ⟨b2,JE,j2,rfl,Jj,HY,f0,_⟩:=wG.out.int hlt
       have hr1:=HR1.out (by first|rfl|trivial) j1 (aM HX.out)
       have hr2:=HR2.out (by first|rfl|trivial) j2 (aM HY.out)
       rw[Iz.out]at hr1
       rw[sJ.out]at hr2
       obtain ⟨i1,rfl⟩: ∃i:Nat,j1=(i:Int):=⟨j1.toNat,by omega⟩
       obtain ⟨i2,rfl⟩: ∃i:Nat,j2=(i:Int):=⟨j2.toNat,by omega⟩
       obtain ⟨b3,Db,y1,hA1,LU,HZ1,_,p1,_,_⟩:=HC.out.col (k:=i1) (by omega)
       first|(subst hA1)|(injection hA1 with hA1;injection hA1 with hA7 hA8;subst hA7;subst hA8)
       obtain ⟨b4,ML,y2,rfl,LV,HZ2,_,q1,_,_⟩:=HO.out.col (k:=i2) (by omega)
       have DC:Hid ((List.zip is os).drop k=((i1:Int),(i2:Int)) :: (List.zip is os).drop (k+1)):=hide (by
        rw[List.zip,List.drop_zipWith,HX.out,HY.out,List.zipWith_cons_cons,List.drop_zipWith])
       have ui:Hid (mV cols ocols ((i1:Int),(i2:Int))=(y1.kind != y2.kind)):=hide (by
        rw[mV]
        simp only[Int.toNat_natCast]
        rw[dW HZ1.out,dW HZ2.out])
       have k0:(0:Int)<=(k:Int):=by omega
       have k1:(k:Int)<(m:Int):=by omega
       have UK:(0:Int)<=(i1:Int):=by omega
       have i11:(i1:Int)<(n1:Int):=hr1.2
       have i20:(0:Int)<=(i2:Int):=by omega
       have i21:(i2:Int)<(n2:Int):=hr2.2
       have jk:=hide mf.out
       have nP:=hide (aa kv.out mf.out)
       clear hr1 hr2 HZ1 HZ2 HX HY
       obtain ⟨k3,hk3⟩: ∃q,y1.kind=q:=⟨_,rfl⟩
       obtain ⟨k4,hk4⟩: ∃q,y2.kind=q:=⟨_,rfl⟩
       rw[hk3]at p1 ui
       rw[hk4]at q1 ui
       clear hk3 hk4
       go_wp2
       go_quiet (fail)
       by_cases hq:k3=k4
       ·subst hq
        have HN:Hid ((List.zip is os).any (mV cols ocols)=((List.zip is os).drop (k+1)).any (mV cols ocols)):=hide (by rw[HE.out,DC.out,List.any_cons,ui.out];simp)
        go_wp2
        all_goals (try (exfalso;go_light;simp_all;done))
        go_roundw
        case rel=>exact ⟨k+1,by omega,by go_num,HN.out,below_drewN jk.out _⟩
        case measure=>simp[RowKit.intOf];omega
       ·have hq2:(k3 != k4)=true:=by simpa using hq
        obtain rfl:R=7:=by rw[HD2.out,HE.out,DC.out,List.any_cons,ui.out,hq2];simp
        go_wp2
        all_goals (try (exfalso;go_light;simp_all;done))
        go_ret
        exact ⟨rfl,below_drewN nP.out _⟩
      ·obtain rfl:R=0:=by rw[HD2.out,HE.out,List.drop_eq_nil_of_le (by rw[List.length_zip,HM.out,vD.out];omega)];rfl
       have nP:=hide (aa kv.out mf.out)
       go_wp2
       all_goals (try (exfalso;go_light;simp_all;done))
       go_ret
       exact ⟨rfl,nP.out⟩
    ·have q5:((m:Int) != (m2:Int))=true:=by simp;omega
     obtain rfl:R=8:=by rw[HD.out,bZ];simp[HM.out,oU.out,uh.out,vD.out,hmm]
     go_wp2
     all_goals (try (exfalso;go_light;simp_all;done))
     go_ret
     exact ⟨rfl,kv.out⟩
   ·have q4:(oe != 0)=true:=by simpa using hoe
    obtain rfl:R=oe:=by rw[HD.out,bZ];simp[HM.out,oU.out,uh.out,hoe]
    go_wp2
    all_goals (try (exfalso;go_light;simp_all;done))
    go_ret
    exact ⟨rfl,kv.out⟩
  ·have q3:(CE != 0)=true:=by simpa using hce
   obtain rfl:R=CE:=by rw[HD.out,bZ];simp[HM.out,oU.out,uh.out,hce]
   go_wp2
   all_goals (try (exfalso;go_light;simp_all;done))
   go_ret
   exact ⟨rfl,uw.out⟩
 ·go_enter Tryz.func134,Tryz.ntmps134
  have HN:=hide hn
  clear hn
  have eT:=hide hn'
  clear hn'
  have HC:=hide hc
  clear hc
  have HO:=hide ho
  clear ho
  go_wp2_with fail
  obtain ⟨W1,hW1⟩: ∃W,W=w.alloc (.cells #[.string x.name,.string x.table,.int .i64 x.kind,.slice A n c,.string x.other,.slice A' n' c',.int .i64 x.low,.int .i64 x.high,.slice aY n'' c'',.int .i64 x.ln,.int .i64 x.ld,.int .i64 x.mn,.int .i64 x.md,.int .i64 x.policy] 27):=⟨_,rfl⟩
  obtain ⟨hbW1,fO,g0,g1,g2,g3,g4,g5,g6,g7,g8,g9,g10,g11,g12,g13⟩:=dE hW1 rfl
  rw[<-hW1]
  clear hW1
  have HN:=hide (HN.out.below hbW1)
  have eT:=hide (eT.out.below hbW1)
  have HC:=hide (HC.out.below hbW1)
  have HO:=hide (HO.out.below hbW1)
  have uy:=hide hbW1
  clear hbW1
  have LR:=lt_of_cell g0
  go_wp2_with fail
  refine (HI1.out _ (by exact HC.out) (by exact HN.out)).mono ?_
  rintro e w1 ⟨⟨v,rfl,hov⟩,hb1⟩
  obtain ⟨A4,c4,rfl⟩:=hov.form
  obtain ⟨m,hm⟩: ∃m,is.length=m:=⟨_,rfl⟩
  have ze:=gD hov rfl
  rw[hm]at ze⊢
  have HM:=hide hm
  clear hov hm
  have HN:=hide (HN.out.below hb1)
  have eT:=hide (eT.out.below hb1)
  have HC:=hide (HC.out.below hb1)
  have HO:=hide (HO.out.below hb1)
  obtain ⟨g0,g1,g2,g3,g4,g5,g6,g7,g8,g9,g10,g11,g12,g13,LR⟩:=eB hb1 LR g0 g1 g2 g3 g4 g5 g6 g7 g8 g9 g10 g11 g12 g13
  have fZ:=hide (aa uy.out hb1)
  clear hb1
  have HK:=hide ze
  clear ze
  by_cases h0:ie=0
  rotate_left
  ·have q0:(ie != 0)=true:=by simpa using h0
   obtain rfl:R=ie:=by rw[HD.out,bZ,if_pos h0]
   go_wp2
   all_goals (try (exfalso;go_light;simp_all;done))
   go_ret
   exact ⟨rfl,fZ.out⟩
  subst h0
  by_cases hmz:m=0
  ·subst hmz
   obtain rfl:R=8:=by rw[HD.out,bZ];simp[HM.out]
   go_wp2
   all_goals (try (exfalso;go_light;simp_all;done))
   go_ret
   exact ⟨rfl,fZ.out⟩
  have qz:((m:Int)==0)=false:=by simpa using hmz
  have oU:=hide hmz
  by_cases hm1:1<m
  ·have q1:decide (1<(m:Int))=true:=by simp;omega
   obtain rfl:R=8:=by rw[HD.out,bZ];simp[HM.out,hm1]
   go_wp2
   all_goals (try (exfalso;go_light;simp_all;done))
   go_ret
   exact ⟨rfl,fZ.out⟩
  have q1:decide (1<(m:Int))=false:=by simp;omega
  have uh:=hide hm1
  obtain ⟨b0,o0,j0,rfl,qy,HX0,e0,_⟩:=HK.out.int (k:=0) (by omega)
  rw[Nat.add_zero]at e0
  have hr0:=HR1.out (by first|rfl|trivial) j0 (aM HX0.out)
  rw[Iz.out]at hr0
  obtain ⟨i0,rfl⟩: ∃i:Nat,j0=(i:Int):=⟨j0.toNat,by omega⟩
  obtain ⟨bc,oc,y0,rfl,Ri,HZ0,_,p0,_,_⟩:=HC.out.col (k:=i0) (by omega)
  have XQ:(0:Int)<=(i0:Int):=by omega
  have XR:(i0:Int)<(n1:Int):=hr0.2
  have U7:(0:Int)<(m:Int):=by omega
  obtain ⟨k5,hk5⟩: ∃q,y0.kind=q:=⟨_,rfl⟩
  have e5:K0=k5:=by
   rw[<-NG.out,dW HX0.out,<-hk5]
   simp only[Int.toNat_natCast]
   rw[dW HZ0.out]
  rw[hk5]at p0
  subst e5
  clear hk5 hr0 HX0 HZ0
  by_cases hk2:K0=2
  rotate_left
  ·have q2:(K0 != 2)=true:=by simpa using hk2
   obtain rfl:R=7:=by rw[HD.out,bZ];simp[HM.out,oU.out,uh.out,hk2]
   go_wp2
   all_goals (try (exfalso;go_light;simp_all;done))
   go_ret
   exact ⟨rfl,fZ.out⟩
  subst hk2
  have q2:((2:Int) != 2)=false:=by decide
  go_wp2_with fail
  refine (sD _ x.kind).mono ?_
  rintro e Nf ⟨rfl,kN⟩
  have HN:=hide (HN.out.below kN)
  have eT:=hide (eT.out.below kN)
  have HC:=hide (HC.out.below kN)
  have HO:=hide (HO.out.below kN)
  have HK:=hide (HK.out.below kN)
  obtain ⟨g0,g1,g2,g3,g4,g5,g6,g7,g8,g9,g10,g11,g12,g13,LR⟩:=eB kN LR g0 g1 g2 g3 g4 g5 g6 g7 g8 g9 g10 g11 g12 g13
  have ji:=hide (aa fZ.out kN)
  clear kN
  rw[HU.out]
  cases U
  ·obtain rfl:R=0:=by rw[HD.out,bZ];simp[HM.out,oU.out,uh.out]
   go_wp2
   all_goals (try (exfalso;go_light;simp_all;done))
   go_ret
   exact ⟨rfl,ji.out⟩
  go_wp2_with fail
  refine (oo _ A2 n2 c2 ocols HO.out).mono ?_
  rintro e VT ⟨rfl,mM⟩
  have HN:=hide (HN.out.below mM)
  have eT:=hide (eT.out.below mM)
  have HC:=hide (HC.out.below mM)
  have HO:=hide (HO.out.below mM)
  have HK:=hide (HK.out.below mM)
  obtain ⟨g0,g1,g2,g3,g4,g5,g6,g7,g8,g9,g10,g11,g12,g13,LR⟩:=eB mM LR g0 g1 g2 g3 g4 g5 g6 g7 g8 g9 g10 g11 g12 g13
  have mW:=hide (aa ji.out mM)
  clear mM
  rw[J5.out]
  by_cases hce:CE=0
  ·subst hce
   go_wp2_with fail
   refine (HI2.out _ (by exact HO.out) (by exact eT.out)).mono ?_
   rintro e w7 ⟨⟨v2,rfl,mO⟩,dC⟩
   obtain ⟨A5,c5,rfl⟩:=mO.form
   obtain ⟨m2,hm2⟩: ∃m,os.length=m:=⟨_,rfl⟩
   have yZ:=gD mO rfl
   rw[hm2]at yZ⊢
   have vD:=hide hm2
   clear mO hm2
   have HN:=hide (HN.out.below dC)
   have HC:=hide (HC.out.below dC)
   have HO:=hide (HO.out.below dC)
   have HK:=hide (HK.out.below dC)
   obtain ⟨g0,g1,g2,g3,g4,g5,g6,g7,g8,g9,g10,g11,g12,g13,LR⟩:=eB dC LR g0 g1 g2 g3 g4 g5 g6 g7 g8 g9 g10 g11 g12 g13
   have kL:=hide (aa mW.out dC)
   clear dC
   have wG:=hide yZ
   clear yZ
   by_cases hoe:oe=0
   ·subst hoe
    by_cases hmm:m=m2
    ·subst hmm
     have HD2:Hid (R=if (List.zip is os).any (mV cols ocols)=true then 7 else 0):=hide (by rw[HD.out,bZ];simp[HM.out,oU.out,uh.out,vD.out])
     obtain ⟨W5,rfl⟩: ∃W,W=w7:=⟨_,rfl⟩
     have h63:=HK.out.le
     go_wp2
     go_loopw [83] (λi wr=> ∃k:Nat,k<=m/\i=.int .i64 k/\(List.zip is os).any (mV cols ocols)=((List.zip is os).drop k).any (mV cols ocols)/\Below W5.heap.size W5 wr) (λi _=>m-(RowKit.intOf i).toNat)
     case atStart=>exact ⟨0,Nat.zero_le _,rfl,rfl,Below.refl _ _⟩
     case round=>
      obtain ⟨k,hk,rfl,heq,hb⟩:=hrel
      have HE:=hide heq
      clear heq
      have HN:=hide (HN.out.below hb)
      have HC:=hide (HC.out.below hb)
      have HO:=hide (HO.out.below hb)
      have HK:=hide (HK.out.below hb)
      have wG:=hide (wG.out.below hb)
      obtain ⟨g0,g1,g2,g3,g4,g5,g6,g7,g8,g9,g10,g11,g12,g13,LR⟩:=eB hb LR g0 g1 g2 g3 g4 g5 g6 g7 g8 g9 g10 g11 g12 g13
      have mX:=hide hb
      clear hb
      clear g0 g1 g2 g3 g4 g5 g6 g7 g8 g9 g10 g11 g12 g13
      by_cases hlt:k<m
      ·obtain ⟨b,off,j1,uO,hBb,HX,e0,_⟩:=HK.out.int hlt
       first|(subst uO)|(injection uO with uO;injection uO with hA5 hA6;subst hA5;subst hA6)
       obtain ⟨b2,JE,j2,rfl,Jj,HY,f0,_⟩:=wG.out.int hlt
       have hr1:=HR1.out (by first|rfl|trivial) j1 (aM HX.out)
       have hr2:=HR2.out (by first|rfl|trivial) j2 (aM HY.out)
       rw[Iz.out]at hr1
       rw[sJ.out]at hr2
       obtain ⟨i1,rfl⟩: ∃i:Nat,j1=(i:Int):=⟨j1.toNat,by omega⟩
       obtain ⟨i2,rfl⟩: ∃i:Nat,j2=(i:Int):=⟨j2.toNat,by omega⟩
       obtain ⟨b3,Db,y1,hA1,LU,HZ1,_,p1,_,_⟩:=HC.out.col (k:=i1) (by omega)
       first|(subst hA1)|(injection hA1 with hA1;injection hA1 with hA7 hA8;subst hA7;subst hA8)
       obtain ⟨b4,ML,y2,rfl,LV,HZ2,_,q1,_,_⟩:=HO.out.col (k:=i2) (by omega)
       have DC:Hid ((List.zip is os).drop k=((i1:Int),(i2:Int)) :: (List.zip is os).drop (k+1)):=hide (by
        rw[List.zip,List.drop_zipWith,HX.out,HY.out,List.zipWith_cons_cons,List.drop_zipWith])
       have ui:Hid (mV cols ocols ((i1:Int),(i2:Int))=(y1.kind != y2.kind)):=hide (by
        rw[mV]
        simp only[Int.toNat_natCast]
        rw[dW HZ1.out,dW HZ2.out])
       have k0:(0:Int)<=(k:Int):=by omega
       have k1:(k:Int)<(m:Int):=by omega
       have UK:(0:Int)<=(i1:Int):=by omega
       have i11:(i1:Int)<(n1:Int):=hr1.2
       have i20:(0:Int)<=(i2:Int):=by omega
       have i21:(i2:Int)<(n2:Int):=hr2.2
       have jk:=hide mX.out
       have nP:=hide (aa kL.out mX.out)
       clear hr1 hr2 HZ1 HZ2 HX HY
       obtain ⟨k3,hk3⟩: ∃q,y1.kind=q:=⟨_,rfl⟩
       obtain ⟨k4,hk4⟩: ∃q,y2.kind=q:=⟨_,rfl⟩
       rw[hk3]at p1 ui
       rw[hk4]at q1 ui
       clear hk3 hk4
       go_wp2
       go_quiet (fail)
       by_cases hq:k3=k4
       ·subst hq
        have HN:Hid ((List.zip is os).any (mV cols ocols)=((List.zip is os).drop (k+1)).any (mV cols ocols)):=hide (by rw[HE.out,DC.out,List.any_cons,ui.out];simp)
        go_wp2
        all_goals (try (exfalso;go_light;simp_all;done))
        go_roundw
        case rel=>exact ⟨k+1,by omega,by go_num,HN.out,below_drewN jk.out _⟩
        case measure=>simp[RowKit.intOf];omega
       ·have hq2:(k3 != k4)=true:=by simpa using hq
        obtain rfl:R=7:=by rw[HD2.out,HE.out,DC.out,List.any_cons,ui.out,hq2];simp
        go_wp2
        all_goals (try (exfalso;go_light;simp_all;done))
        go_ret
        exact ⟨rfl,below_drewN nP.out _⟩
      ·obtain rfl:R=0:=by rw[HD2.out,HE.out,List.drop_eq_nil_of_le (by rw[List.length_zip,HM.out,vD.out];omega)];rfl
       have nP:=hide (aa kL.out mX.out)
       go_wp2
       all_goals (try (exfalso;go_light;simp_all;done))
       go_ret
       exact ⟨rfl,nP.out⟩
    ·have q5:((m:Int) != (m2:Int))=true:=by simp;omega
     obtain rfl:R=8:=by rw[HD.out,bZ];simp[HM.out,oU.out,uh.out,vD.out,hmm]
     go_wp2
     all_goals (try (exfalso;go_light;simp_all;done))
     go_ret
     exact ⟨rfl,kL.out⟩
   ·have q4:(oe != 0)=true:=by simpa using hoe
    obtain rfl:R=oe:=by rw[HD.out,bZ];simp[HM.out,oU.out,uh.out,hoe]
    go_wp2
    all_goals (try (exfalso;go_light;simp_all;done))
    go_ret
    exact ⟨rfl,kL.out⟩
  ·have q3:(CE != 0)=true:=by simpa using hce
   obtain rfl:R=CE:=by rw[HD.out,bZ];simp[HM.out,oU.out,uh.out,hce]
   go_wp2
   all_goals (try (exfalso;go_light;simp_all;done))
   go_ret
   exact ⟨rfl,mW.out⟩
 ·go_enter Tryz.func134,Tryz.ntmps134
  have HN:=hide hn
  clear hn
  have eT:=hide hn'
  clear hn'
  have HC:=hide hc
  clear hc
  have HO:=hide ho
  clear ho
  go_wp2_with fail
  obtain ⟨W1,hW1⟩: ∃W,W=w.alloc (.cells #[.string x.name,.string x.table,.int .i64 x.kind,.slice A n c,.string x.other,.slice A' n' c',.int .i64 x.low,.int .i64 x.high,.slice aY n'' c'',.int .i64 x.ln,.int .i64 x.ld,.int .i64 x.mn,.int .i64 x.md,.int .i64 x.policy] 27):=⟨_,rfl⟩
  obtain ⟨hbW1,fO,g0,g1,g2,g3,g4,g5,g6,g7,g8,g9,g10,g11,g12,g13⟩:=dE hW1 rfl
  rw[<-hW1]
  clear hW1
  have HN:=hide (HN.out.below hbW1)
  have eT:=hide (eT.out.below hbW1)
  have HC:=hide (HC.out.below hbW1)
  have HO:=hide (HO.out.below hbW1)
  have mY:=hide hbW1
  clear hbW1
  have LR:=lt_of_cell g0
  go_wp2_with fail
  refine (HI1.out _ (by exact HC.out) (by exact HN.out)).mono ?_
  rintro e w1 ⟨⟨v,rfl,hov⟩,hb1⟩
  obtain ⟨A4,c4,rfl⟩:=hov.form
  obtain ⟨m,hm⟩: ∃m,is.length=m:=⟨_,rfl⟩
  have ze:=gD hov rfl
  rw[hm]at ze⊢
  have HM:=hide hm
  clear hov hm
  have HN:=hide (HN.out.below hb1)
  have eT:=hide (eT.out.below hb1)
  have HC:=hide (HC.out.below hb1)
  have HO:=hide (HO.out.below hb1)
  obtain ⟨g0,g1,g2,g3,g4,g5,g6,g7,g8,g9,g10,g11,g12,g13,LR⟩:=eB hb1 LR g0 g1 g2 g3 g4 g5 g6 g7 g8 g9 g10 g11 g12 g13
  have tF:=hide (aa mY.out hb1)
  clear hb1
  have HK:=hide ze
  clear ze
  by_cases h0:ie=0
  rotate_left
  ·have q0:(ie != 0)=true:=by simpa using h0
   obtain rfl:R=ie:=by rw[HD.out,bZ,if_pos h0]
   go_wp2
   all_goals (try (exfalso;go_light;simp_all;done))
   go_ret
   exact ⟨rfl,tF.out⟩
  subst h0
  by_cases hmz:m=0
  ·subst hmz
   obtain rfl:R=8:=by rw[HD.out,bZ];simp[HM.out]
   go_wp2
   all_goals (try (exfalso;go_light;simp_all;done))
   go_ret
   exact ⟨rfl,tF.out⟩
  have qz:((m:Int)==0)=false:=by simpa using hmz
  have oU:=hide hmz
  go_wp2_with fail
  refine (sD _ x.kind).mono ?_
  rintro e U5 ⟨rfl,rf⟩
  have HN:=hide (HN.out.below rf)
  have eT:=hide (eT.out.below rf)
  have HC:=hide (HC.out.below rf)
  have HO:=hide (HO.out.below rf)
  have HK:=hide (HK.out.below rf)
  obtain ⟨g0,g1,g2,g3,g4,g5,g6,g7,g8,g9,g10,g11,g12,g13,LR⟩:=eB rf LR g0 g1 g2 g3 g4 g5 g6 g7 g8 g9 g10 g11 g12 g13
  have jW:=hide (aa tF.out rf)
  clear rf
  rw[HU.out]
  cases U
  ·obtain rfl:R=0:=by rw[HD.out,bZ];simp[HM.out,oU.out]
   go_wp2
   all_goals (try (exfalso;go_light;simp_all;done))
   go_ret
   exact ⟨rfl,jW.out⟩
  go_wp2_with fail
  refine (oo _ A2 n2 c2 ocols HO.out).mono ?_
  rintro e U6 ⟨rfl,lV⟩
  have HN:=hide (HN.out.below lV)
  have eT:=hide (eT.out.below lV)
  have HC:=hide (HC.out.below lV)
  have HO:=hide (HO.out.below lV)
  have HK:=hide (HK.out.below lV)
  obtain ⟨g0,g1,g2,g3,g4,g5,g6,g7,g8,g9,g10,g11,g12,g13,LR⟩:=eB lV LR g0 g1 g2 g3 g4 g5 g6 g7 g8 g9 g10 g11 g12 g13
  have kw:=hide (aa jW.out lV)
  clear lV
  rw[J5.out]
  by_cases hce:CE=0
  ·subst hce
   go_wp2_with fail
   refine (HI2.out _ (by exact HO.out) (by exact eT.out)).mono ?_
   rintro e w7 ⟨⟨v2,rfl,mO⟩,dC⟩
   obtain ⟨A5,c5,rfl⟩:=mO.form
   obtain ⟨m2,hm2⟩: ∃m,os.length=m:=⟨_,rfl⟩
   have yZ:=gD mO rfl
   rw[hm2]at yZ⊢
   have vD:=hide hm2
   clear mO hm2
   have HN:=hide (HN.out.below dC)
   have HC:=hide (HC.out.below dC)
   have HO:=hide (HO.out.below dC)
   have HK:=hide (HK.out.below dC)
   obtain ⟨g0,g1,g2,g3,g4,g5,g6,g7,g8,g9,g10,g11,g12,g13,LR⟩:=eB dC LR g0 g1 g2 g3 g4 g5 g6 g7 g8 g9 g10 g11 g12 g13
   have ma:=hide (aa kw.out dC)
   clear dC
   have wG:=hide yZ
   clear yZ
   by_cases hoe:oe=0
   ·subst hoe
    by_cases hmm:m=m2
    ·subst hmm
     have HD2:Hid (R=if (List.zip is os).any (mV cols ocols)=true then 7 else 0):=hide (by rw[HD.out,bZ];simp[HM.out,oU.out,vD.out])
     obtain ⟨W5,rfl⟩: ∃W,W=w7:=⟨_,rfl⟩
     have h63:=HK.out.le
     go_wp2
     go_loopw [83] (λi wr=> ∃k:Nat,k<=m/\i=.int .i64 k/\(List.zip is os).any (mV cols ocols)=((List.zip is os).drop k).any (mV cols ocols)/\Below W5.heap.size W5 wr) (λi _=>m-(RowKit.intOf i).toNat)
     case atStart=>exact ⟨0,Nat.zero_le _,rfl,rfl,Below.refl _ _⟩
     case round=>
      obtain ⟨k,hk,rfl,heq,hb⟩:=hrel
      have HE:=hide heq
      clear heq
      have HN:=hide (HN.out.below hb)
      have HC:=hide (HC.out.below hb)
      have HO:=hide (HO.out.below hb)
      have HK:=hide (HK.out.below hb)
      have wG:=hide (wG.out.below hb)
      obtain ⟨g0,g1,g2,g3,g4,g5,g6,g7,g8,g9,g10,g11,g12,g13,LR⟩:=eB hb LR g0 g1 g2 g3 g4 g5 g6 g7 g8 g9 g10 g11 g12 g13
      have il:=hide hb
      clear hb
      clear g0 g1 g2 g3 g4 g5 g6 g7 g8 g9 g10 g11 g12 g13
      by_cases hlt:k<m
      ·obtain ⟨b,off,j1,uO,hBb,HX,e0,_⟩:=HK.out.int hlt
       first|(subst uO)|(injection uO with uO;injection uO with hA5 hA6;subst hA5;subst hA6)
       obtain ⟨b2,JE,j2,rfl,Jj,HY,f0,_⟩:=wG.out.int hlt
       have hr1:=HR1.out (by first|rfl|trivial) j1 (aM HX.out)
       have hr2:=HR2.out (by first|rfl|trivial) j2 (aM HY.out)
       rw[Iz.out]at hr1
       rw[sJ.out]at hr2
       obtain ⟨i1,rfl⟩: ∃i:Nat,j1=(i:Int):=⟨j1.toNat,by omega⟩
       obtain ⟨i2,rfl⟩: ∃i:Nat,j2=(i:Int):=⟨j2.toNat,by omega⟩
       obtain ⟨b3,Db,y1,hA1,LU,HZ1,_,p1,_,_⟩:=HC.out.col (k:=i1) (by omega)
       first|(subst hA1)|(injection hA1 with hA1;injection hA1 with hA7 hA8;subst hA7;subst hA8)
       obtain ⟨b4,ML,y2,rfl,LV,HZ2,_,q1,_,_⟩:=HO.out.col (k:=i2) (by omega)
       have DC:Hid ((List.zip is os).drop k=((i1:Int),(i2:Int)) :: (List.zip is os).drop (k+1)):=hide (by
        rw[List.zip,List.drop_zipWith,HX.out,HY.out,List.zipWith_cons_cons,List.drop_zipWith])
       have ui:Hid (mV cols ocols ((i1:Int),(i2:Int))=(y1.kind != y2.kind)):=hide (by
        rw[mV]
        simp only[Int.toNat_natCast]
        rw[dW HZ1.out,dW HZ2.out])
       have k0:(0:Int)<=(k:Int):=by omega
       have k1:(k:Int)<(m:Int):=by omega
       have UK:(0:Int)<=(i1:Int):=by omega
       have i11:(i1:Int)<(n1:Int):=hr1.2
       have i20:(0:Int)<=(i2:Int):=by omega
       have i21:(i2:Int)<(n2:Int):=hr2.2
       have jk:=hide il.out
       have nP:=hide (aa ma.out il.out)
       clear hr1 hr2 HZ1 HZ2 HX HY
       obtain ⟨k3,hk3⟩: ∃q,y1.kind=q:=⟨_,rfl⟩
       obtain ⟨k4,hk4⟩: ∃q,y2.kind=q:=⟨_,rfl⟩
       rw[hk3]at p1 ui
       rw[hk4]at q1 ui
       clear hk3 hk4
       go_wp2
       go_quiet (fail)
       by_cases hq:k3=k4
       ·subst hq
        have HN:Hid ((List.zip is os).any (mV cols ocols)=((List.zip is os).drop (k+1)).any (mV cols ocols)):=hide (by rw[HE.out,DC.out,List.any_cons,ui.out];simp)
        go_wp2
        all_goals (try (exfalso;go_light;simp_all;done))
        go_roundw
        case rel=>exact ⟨k+1,by omega,by go_num,HN.out,below_drewN jk.out _⟩
        case measure=>simp[RowKit.intOf];omega
       ·have hq2:(k3 != k4)=true:=by simpa using hq
        obtain rfl:R=7:=by rw[HD2.out,HE.out,DC.out,List.any_cons,ui.out,hq2];simp
        go_wp2
        all_goals (try (exfalso;go_light;simp_all;done))
        go_ret
        exact ⟨rfl,below_drewN nP.out _⟩
      ·obtain rfl:R=0:=by rw[HD2.out,HE.out,List.drop_eq_nil_of_le (by rw[List.length_zip,HM.out,vD.out];omega)];rfl
       have nP:=hide (aa ma.out il.out)
       go_wp2
       all_goals (try (exfalso;go_light;simp_all;done))
       go_ret
       exact ⟨rfl,nP.out⟩
    ·have q5:((m:Int) != (m2:Int))=true:=by simp;omega
     obtain rfl:R=8:=by rw[HD.out,bZ];simp[HM.out,oU.out,vD.out,hmm]
     go_wp2
     all_goals (try (exfalso;go_light;simp_all;done))
     go_ret
     exact ⟨rfl,ma.out⟩
   ·have q4:(oe != 0)=true:=by simpa using hoe
    obtain rfl:R=oe:=by rw[HD.out,bZ];simp[HM.out,oU.out,hoe]
    go_wp2
    all_goals (try (exfalso;go_light;simp_all;done))
    go_ret
    exact ⟨rfl,ma.out⟩
  ·have q3:(CE != 0)=true:=by simpa using hce
   obtain rfl:R=CE:=by rw[HD.out,bZ];simp[HM.out,oU.out,hce]
   go_wp2
   all_goals (try (exfalso;go_light;simp_all;done))
   go_ret
   exact ⟨rfl,kw.out⟩
end Go.Proofs.YtggejcekmehocaaGreatDoor
