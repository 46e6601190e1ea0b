/-
  check.checkColumns.
-/
import Derived.Test.YtggejcekmehocaaGreatDoorGaw
namespace Go.Proofs.YtggejcekmehocaaGreatDoor
set_option maxHeartbeats 4000000
set_option maxRecDepth 100000
open Go.RowKit
set_option linter.unusedSimpArgs false
set_option linter.unusedVariables false
def kdP (cols ocols:List Col)(p:Int×Int):Bool:=(cols.getD p.1.toNat default).kind != (ocols.getD p.2.toNat default).kind
def colsR (sg U:Bool)(ie:Int)(is:List Int)(k0 ce oe:Int)(os:List Int)(df:Bool):Int:=
 if ie≠0 then ie else if is.length=0\/(sg=true/\1<is.length) then 8 else if sg=true/\k0≠2 then 7 else if U=false then 0
 else if ce≠0 then ce else if oe≠0 then oe else if is.length≠os.length then 8 else if df=true then 7 else 0
theorem chkCols_eq (c:Chk)(cols ocols:List Col):chkCols c cols ocols=
  colsR (c.kind==2 || c.kind==6) (usesO c.kind) (indsS cols c.cols).1 (indsS cols c.cols).2 (cols.getD ((indsS cols c.cols).2.getD 0 0).toNat default).kind (colsErr ocols) (indsS ocols c.ocols).1 (indsS ocols c.ocols).2 ((List.zip (indsS cols c.cols).2 (indsS ocols c.ocols).2).any (kdP cols ocols)):=by
 simp only[chkCols,colsR,Bool.or_eq_true,beq_iff_eq]
 rfl
theorem inds_rng {cols:List Col}{names:List ByteArray}(h:(indsS cols names).1=0): ∀y∈(indsS cols names).2,0<=y/\y<(cols.length:Int):=λy hy=>by
 obtain ⟨h1,h2,_⟩:=inds_fit h
 rw[h1]at hy
 obtain ⟨s,hs,rfl⟩:=List.mem_map.1 hy
 exact h2 s hs
theorem getD_dr {α:Type}{xs:List α}{k:Nat}{x d:α}{l:List α}(h:xs.drop k=x :: l):xs.getD k d=x:=by
 rw[List.getD_eq_getElem?_getD,(drop_get h).1];rfl
theorem checkColumns_any (w:World)(x:Chk)(A:Option Addr)(n c:Nat)(hn:In w A n c x.cols)(A':Option Addr)(n' c':Nat)(hn':In w A' n' c' x.ocols)(A'':Option Addr)(n'' c'':Nat)(A1:Option Addr)(n1 c1:Nat)(cols:List Col)(hc:In w A1 n1 c1 cols)(A2:Option Addr)(n2 c2:Nat)(ocols:List Col)(ho:In w A2 n2 c2 ocols)(hb0:n<=4096)(hb1:n'<=4096)(hb2:n1<=4096)(hb3:n2<=4096):
  Calls Tryz.prog 134 #[.agg (chkCells x A n c A' n' c' A'' n'' c'').toArray,.slice A1 n1 c1,.slice A2 n2 c2] w λe w'=>e=.returned (.int .i64 (chkCols x cols ocols))/\Below w.heap.size w w':=by
 have HD:=hide (chkCols_eq x cols ocols)
 have HI1:=hide λW hx hy=>indices_any W A1 n1 c1 cols hx A n c x.cols hy (by omega) (by omega)
 have HI2:=hide λW hx hy=>indices_any W A2 n2 c2 ocols hx A' n' c' x.ocols hy (by omega) (by omega)
 have HR1:=hide (λh=>inds_rng (cols:=cols) (names:=x.cols) h)
 have HR2:=hide (λh=>inds_rng (cols:=ocols) (names:=x.ocols) h)
 have HLN1:=hide (Nat.le_trans (inds_len cols x.cols) (by rw[hn.len];exact hb0))
 have HLN2:=hide (Nat.le_trans (inds_len ocols x.ocols) (by rw[hn'.len];exact hb1))
 have HCL:=hide hc.len
 have HOL:=hide ho.len
 obtain ⟨R,hR⟩: ∃R,chkCols x cols ocols=R:=⟨_,rfl⟩
 obtain ⟨I1,hI1⟩: ∃I,indsS cols x.cols=I:=⟨_,rfl⟩
 obtain ⟨I2,hI2⟩: ∃I,indsS ocols x.ocols=I:=⟨_,rfl⟩
 obtain ⟨U,hU⟩: ∃U,usesO x.kind=U:=⟨_,rfl⟩
 rw[hR,hI1,hI2,hU]at HD
 rw[hI1]at HI1 HR1 HLN1
 rw[hI2]at HI2 HR2 HLN2
 rw[hR]
 have HU:=hide hU
 clear hR hI1 hI2 hU
 obtain ⟨ie,is⟩:=I1
 obtain ⟨oe,os⟩:=I2
 simp only at HD HI1 HI2 HR1 HR2 HLN1 HLN2
 obtain ⟨K0,hK0⟩: ∃K,(cols.getD (is.getD 0 0).toNat default).kind=K:=⟨_,rfl⟩
 rw[hK0]at HD
 have HK0:=hide hK0
 clear hK0
 obtain ⟨CE,hCE⟩: ∃CE,colsErr ocols=CE:=⟨_,rfl⟩
 rw[hCE]at HD
 have HCE:=hide hCE
 obtain ⟨sg,hsg⟩: ∃s,(x.kind==2 || x.kind==6)=s:=⟨_,rfl⟩
 rw[hsg]at HD
 clear hCE
 have hk:((x.kind==2)=true/\sg=true)\/((x.kind==2)=false/\(x.kind==6)=true/\sg=true)\/((x.kind==2)=false/\(x.kind==6)=false/\sg=false):=by
  cases h1:(x.kind==2) <;> cases h2:(x.kind==6) <;> simp[h1,h2]at hsg <;> simp[hsg]
 clear hsg
 simp only[chkCells]
 rcases hk with ⟨h2,rfl⟩|⟨h2,h6,rfl⟩|⟨h2,h6,rfl⟩
 ·go_enter Tryz.func134,Tryz.ntmps134
  have HN:=hide hn
  clear hn
  have HN2:=hide hn'
  clear hn'
  have HC:=hide hc
  clear hc
  have HO:=hide ho
  clear ho
  go_wp2_with fail
  obtain ⟨W1,hW1⟩: ∃W,W=w.alloc (.cells #[.string x.name,.string x.table,.int .i64 x.kind,.slice A n c,.string x.other,.slice A' n' c',.int .i64 x.low,.int .i64 x.high,.slice A'' n'' c'',.int .i64 x.ln,.int .i64 x.ld,.int .i64 x.mn,.int .i64 x.md,.int .i64 x.policy] 27):=⟨_,rfl⟩
  obtain ⟨hbW1,SZW1,g0,g1,g2,g3,g4,g5,g6,g7,g8,g9,g10,g11,g12,g13⟩:=boxed14 hW1 rfl
  rw[<-hW1]
  clear hW1
  have HN:=hide (HN.out.below hbW1)
  have HN2:=hide (HN2.out.below hbW1)
  have HC:=hide (HC.out.below hbW1)
  have HO:=hide (HO.out.below hbW1)
  have SG1:=hide hbW1
  clear hbW1
  have LR:=lt_of_cell g0
  go_wp2_with fail
  refine (HI1.out _ (by exact HC.out) (by exact HN.out)).mono ?_
  rintro e w1 ⟨⟨v,rfl,hov⟩,hb1⟩
  obtain ⟨A4,c4,rfl⟩:=hov.form
  obtain ⟨m,hm⟩: ∃m,is.length=m:=⟨_,rfl⟩
  have hk9:=ol_in hov rfl
  rw[hm]at hk9⊢
  have HM:=hide hm
  clear hov hm
  have HN:=hide (HN.out.below hb1)
  have HN2:=hide (HN2.out.below hb1)
  have HC:=hide (HC.out.below hb1)
  have HO:=hide (HO.out.below hb1)
  obtain ⟨g0,g1,g2,g3,g4,g5,g6,g7,g8,g9,g10,g11,g12,g13,LR⟩:=bats14 hb1 LR g0 g1 g2 g3 g4 g5 g6 g7 g8 g9 g10 g11 g12 g13
  have SG2:=hide (below_trans SG1.out hb1)
  clear hb1
  have HK:=hide hk9
  clear hk9
  by_cases h0:ie=0
  rotate_left
  ·have q0:(ie != 0)=true:=by simpa using h0
   obtain rfl:R=ie:=by rw[HD.out,colsR,if_pos h0]
   go_wp2
   all_goals (try (exfalso;go_light;simp_all;done))
   go_ret
   exact ⟨rfl,SG2.out⟩
  subst h0
  by_cases hmz:m=0
  ·subst hmz
   obtain rfl:R=8:=by rw[HD.out,colsR];simp[HM.out]
   go_wp2
   all_goals (try (exfalso;go_light;simp_all;done))
   go_ret
   exact ⟨rfl,SG2.out⟩
  have qz:((m:Int)==0)=false:=by simpa using hmz
  have HMZ:=hide hmz
  by_cases hm1:1<m
  ·have q1:decide (1<(m:Int))=true:=by simp;omega
   obtain rfl:R=8:=by rw[HD.out,colsR];simp[HM.out,hm1]
   go_wp2
   all_goals (try (exfalso;go_light;simp_all;done))
   go_ret
   exact ⟨rfl,SG2.out⟩
  have q1:decide (1<(m:Int))=false:=by simp;omega
  have HM1:=hide hm1
  obtain ⟨b0,o0,j0,rfl,hBb0,HX0,e0,_⟩:=HK.out.int (k:=0) (by omega)
  rw[Nat.add_zero]at e0
  have hr0:=HR1.out (by first|rfl|trivial) j0 (mem_of_drop HX0.out)
  rw[HCL.out]at hr0
  obtain ⟨i0,rfl⟩: ∃i:Nat,j0=(i:Int):=⟨j0.toNat,by omega⟩
  obtain ⟨bc,oc,y0,rfl,hBbc,HZ0,_,p0,_,_⟩:=HC.out.col (k:=i0) (by omega)
  have i00:(0:Int)<=(i0:Int):=by omega
  have i01:(i0:Int)<(n1:Int):=hr0.2
  have z01:(0:Int)<(m:Int):=by omega
  obtain ⟨k5,hk5⟩: ∃q,y0.kind=q:=⟨_,rfl⟩
  have e5:K0=k5:=by
   rw[<-HK0.out,getD_dr HX0.out,<-hk5]
   simp only[Int.toNat_natCast]
   rw[getD_dr HZ0.out]
  rw[hk5]at p0
  subst e5
  clear hk5 hr0 HX0 HZ0
  by_cases hk2:K0=2
  rotate_left
  ·have q2:(K0 != 2)=true:=by simpa using hk2
   obtain rfl:R=7:=by rw[HD.out,colsR];simp[HM.out,HMZ.out,HM1.out,hk2]
   go_wp2
   all_goals (try (exfalso;go_light;simp_all;done))
   go_ret
   exact ⟨rfl,SG2.out⟩
  subst hk2
  have q2:((2:Int) != 2)=false:=by decide
  go_wp2_with fail
  refine (usesO_any _ x.kind).mono ?_
  rintro e w3 ⟨rfl,hb3⟩
  have HN:=hide (HN.out.below hb3)
  have HN2:=hide (HN2.out.below hb3)
  have HC:=hide (HC.out.below hb3)
  have HO:=hide (HO.out.below hb3)
  have HK:=hide (HK.out.below hb3)
  obtain ⟨g0,g1,g2,g3,g4,g5,g6,g7,g8,g9,g10,g11,g12,g13,LR⟩:=bats14 hb3 LR g0 g1 g2 g3 g4 g5 g6 g7 g8 g9 g10 g11 g12 g13
  have SG4:=hide (below_trans SG2.out hb3)
  clear hb3
  rw[HU.out]
  cases U
  ·obtain rfl:R=0:=by rw[HD.out,colsR];simp[HM.out,HMZ.out,HM1.out]
   go_wp2
   all_goals (try (exfalso;go_light;simp_all;done))
   go_ret
   exact ⟨rfl,SG4.out⟩
  go_wp2_with fail
  refine (cols_any _ A2 n2 c2 ocols HO.out).mono ?_
  rintro e w5 ⟨rfl,hb5⟩
  have HN:=hide (HN.out.below hb5)
  have HN2:=hide (HN2.out.below hb5)
  have HC:=hide (HC.out.below hb5)
  have HO:=hide (HO.out.below hb5)
  have HK:=hide (HK.out.below hb5)
  obtain ⟨g0,g1,g2,g3,g4,g5,g6,g7,g8,g9,g10,g11,g12,g13,LR⟩:=bats14 hb5 LR g0 g1 g2 g3 g4 g5 g6 g7 g8 g9 g10 g11 g12 g13
  have SG6:=hide (below_trans SG4.out hb5)
  clear hb5
  rw[HCE.out]
  by_cases hce:CE=0
  ·subst hce
   go_wp2_with fail
   refine (HI2.out _ (by exact HO.out) (by exact HN2.out)).mono ?_
   rintro e w7 ⟨⟨v2,rfl,hov2⟩,hb7⟩
   obtain ⟨A5,c5,rfl⟩:=hov2.form
   obtain ⟨m2,hm2⟩: ∃m,os.length=m:=⟨_,rfl⟩
   have hk8:=ol_in hov2 rfl
   rw[hm2]at hk8⊢
   have HM2:=hide hm2
   clear hov2 hm2
   have HN:=hide (HN.out.below hb7)
   have HC:=hide (HC.out.below hb7)
   have HO:=hide (HO.out.below hb7)
   have HK:=hide (HK.out.below hb7)
   obtain ⟨g0,g1,g2,g3,g4,g5,g6,g7,g8,g9,g10,g11,g12,g13,LR⟩:=bats14 hb7 LR g0 g1 g2 g3 g4 g5 g6 g7 g8 g9 g10 g11 g12 g13
   have SG7:=hide (below_trans SG6.out hb7)
   clear hb7
   have HK2:=hide hk8
   clear hk8
   by_cases hoe:oe=0
   ·subst hoe
    by_cases hmm:m=m2
    ·subst hmm
     have HD2:Hid (R=if (List.zip is os).any (kdP cols ocols)=true then 7 else 0):=hide (by rw[HD.out,colsR];simp[HM.out,HMZ.out,HM1.out,HM2.out])
     obtain ⟨W5,rfl⟩: ∃W,W=w7:=⟨_,rfl⟩
     have h63:=HK.out.le
     go_wp2
     go_loopw [83] (λi wr=> ∃k:Nat,k<=m/\i=.int .i64 k/\(List.zip is os).any (kdP cols ocols)=((List.zip is os).drop k).any (kdP cols ocols)/\Below W5.heap.size W5 wr) (λi _=>m-(RowKit.intOf i).toNat)
     case atStart=>exact ⟨0,Nat.zero_le _,rfl,rfl,Below.refl _ _⟩
     case round=>
      obtain ⟨k,hk,rfl,heq,hb⟩:=hrel
      have HE:=hide heq
      clear heq
      have HN:=hide (HN.out.below hb)
      have HC:=hide (HC.out.below hb)
      have HO:=hide (HO.out.below hb)
      have HK:=hide (HK.out.below hb)
      have HK2:=hide (HK2.out.below hb)
      obtain ⟨g0,g1,g2,g3,g4,g5,g6,g7,g8,g9,g10,g11,g12,g13,LR⟩:=bats14 hb LR g0 g1 g2 g3 g4 g5 g6 g7 g8 g9 g10 g11 g12 g13
      have SG8:=hide hb
      clear hb
      clear g0 g1 g2 g3 g4 g5 g6 g7 g8 g9 g10 g11 g12 g13
      by_cases hlt:k<m
      ·obtain ⟨b,off,j1,hA4,hBb,HX,e0,_⟩:=HK.out.int hlt
       first|(subst hA4)|(injection hA4 with hA4;injection hA4 with hA5 hA6;subst hA5;subst hA6)
       obtain ⟨b2,off2,j2,rfl,hBb2,HY,f0,_⟩:=HK2.out.int hlt
       have hr1:=HR1.out (by first|rfl|trivial) j1 (mem_of_drop HX.out)
       have hr2:=HR2.out (by first|rfl|trivial) j2 (mem_of_drop HY.out)
       rw[HCL.out]at hr1
       rw[HOL.out]at hr2
       obtain ⟨i1,rfl⟩: ∃i:Nat,j1=(i:Int):=⟨j1.toNat,by omega⟩
       obtain ⟨i2,rfl⟩: ∃i:Nat,j2=(i:Int):=⟨j2.toNat,by omega⟩
       obtain ⟨b3,off3,y1,hA1,hBb3,HZ1,_,p1,_,_⟩:=HC.out.col (k:=i1) (by omega)
       first|(subst hA1)|(injection hA1 with hA1;injection hA1 with hA7 hA8;subst hA7;subst hA8)
       obtain ⟨b4,off4,y2,rfl,hBb4,HZ2,_,q1,_,_⟩:=HO.out.col (k:=i2) (by omega)
       have HZP:Hid ((List.zip is os).drop k=((i1:Int),(i2:Int)) :: (List.zip is os).drop (k+1)):=hide (by
        rw[List.zip,List.drop_zipWith,HX.out,HY.out,List.zipWith_cons_cons,List.drop_zipWith])
       have HKP:Hid (kdP cols ocols ((i1:Int),(i2:Int))=(y1.kind != y2.kind)):=hide (by
        rw[kdP]
        simp only[Int.toNat_natCast]
        rw[getD_dr HZ1.out,getD_dr HZ2.out])
       have k0:(0:Int)<=(k:Int):=by omega
       have k1:(k:Int)<(m:Int):=by omega
       have i10:(0:Int)<=(i1:Int):=by omega
       have i11:(i1:Int)<(n1:Int):=hr1.2
       have i20:(0:Int)<=(i2:Int):=by omega
       have i21:(i2:Int)<(n2:Int):=hr2.2
       have HBW:=hide SG8.out
       have HBB:=hide (below_trans SG7.out SG8.out)
       clear hr1 hr2 HZ1 HZ2 HX HY
       obtain ⟨k3,hk3⟩: ∃q,y1.kind=q:=⟨_,rfl⟩
       obtain ⟨k4,hk4⟩: ∃q,y2.kind=q:=⟨_,rfl⟩
       rw[hk3]at p1 HKP
       rw[hk4]at q1 HKP
       clear hk3 hk4
       go_wp2
       go_quiet (fail)
       by_cases hq:k3=k4
       ·subst hq
        have HN:Hid ((List.zip is os).any (kdP cols ocols)=((List.zip is os).drop (k+1)).any (kdP cols ocols)):=hide (by rw[HE.out,HZP.out,List.any_cons,HKP.out];simp)
        go_wp2
        all_goals (try (exfalso;go_light;simp_all;done))
        go_roundw
        case rel=>exact ⟨k+1,by omega,by go_num,HN.out,below_drewN HBW.out _⟩
        case measure=>simp[RowKit.intOf];omega
       ·have hq2:(k3 != k4)=true:=by simpa using hq
        obtain rfl:R=7:=by rw[HD2.out,HE.out,HZP.out,List.any_cons,HKP.out,hq2];simp
        go_wp2
        all_goals (try (exfalso;go_light;simp_all;done))
        go_ret
        exact ⟨rfl,below_drewN HBB.out _⟩
      ·obtain rfl:R=0:=by rw[HD2.out,HE.out,List.drop_eq_nil_of_le (by rw[List.length_zip,HM.out,HM2.out];omega)];rfl
       have HBB:=hide (below_trans SG7.out SG8.out)
       go_wp2
       all_goals (try (exfalso;go_light;simp_all;done))
       go_ret
       exact ⟨rfl,HBB.out⟩
    ·have q5:((m:Int) != (m2:Int))=true:=by simp;omega
     obtain rfl:R=8:=by rw[HD.out,colsR];simp[HM.out,HMZ.out,HM1.out,HM2.out,hmm]
     go_wp2
     all_goals (try (exfalso;go_light;simp_all;done))
     go_ret
     exact ⟨rfl,SG7.out⟩
   ·have q4:(oe != 0)=true:=by simpa using hoe
    obtain rfl:R=oe:=by rw[HD.out,colsR];simp[HM.out,HMZ.out,HM1.out,hoe]
    go_wp2
    all_goals (try (exfalso;go_light;simp_all;done))
    go_ret
    exact ⟨rfl,SG7.out⟩
  ·have q3:(CE != 0)=true:=by simpa using hce
   obtain rfl:R=CE:=by rw[HD.out,colsR];simp[HM.out,HMZ.out,HM1.out,hce]
   go_wp2
   all_goals (try (exfalso;go_light;simp_all;done))
   go_ret
   exact ⟨rfl,SG6.out⟩
 ·go_enter Tryz.func134,Tryz.ntmps134
  have HN:=hide hn
  clear hn
  have HN2:=hide hn'
  clear hn'
  have HC:=hide hc
  clear hc
  have HO:=hide ho
  clear ho
  go_wp2_with fail
  obtain ⟨W1,hW1⟩: ∃W,W=w.alloc (.cells #[.string x.name,.string x.table,.int .i64 x.kind,.slice A n c,.string x.other,.slice A' n' c',.int .i64 x.low,.int .i64 x.high,.slice A'' n'' c'',.int .i64 x.ln,.int .i64 x.ld,.int .i64 x.mn,.int .i64 x.md,.int .i64 x.policy] 27):=⟨_,rfl⟩
  obtain ⟨hbW1,SZW1,g0,g1,g2,g3,g4,g5,g6,g7,g8,g9,g10,g11,g12,g13⟩:=boxed14 hW1 rfl
  rw[<-hW1]
  clear hW1
  have HN:=hide (HN.out.below hbW1)
  have HN2:=hide (HN2.out.below hbW1)
  have HC:=hide (HC.out.below hbW1)
  have HO:=hide (HO.out.below hbW1)
  have SG9:=hide hbW1
  clear hbW1
  have LR:=lt_of_cell g0
  go_wp2_with fail
  refine (HI1.out _ (by exact HC.out) (by exact HN.out)).mono ?_
  rintro e w1 ⟨⟨v,rfl,hov⟩,hb1⟩
  obtain ⟨A4,c4,rfl⟩:=hov.form
  obtain ⟨m,hm⟩: ∃m,is.length=m:=⟨_,rfl⟩
  have hk9:=ol_in hov rfl
  rw[hm]at hk9⊢
  have HM:=hide hm
  clear hov hm
  have HN:=hide (HN.out.below hb1)
  have HN2:=hide (HN2.out.below hb1)
  have HC:=hide (HC.out.below hb1)
  have HO:=hide (HO.out.below hb1)
  obtain ⟨g0,g1,g2,g3,g4,g5,g6,g7,g8,g9,g10,g11,g12,g13,LR⟩:=bats14 hb1 LR g0 g1 g2 g3 g4 g5 g6 g7 g8 g9 g10 g11 g12 g13
  have SG10:=hide (below_trans SG9.out hb1)
  clear hb1
  have HK:=hide hk9
  clear hk9
  by_cases h0:ie=0
  rotate_left
  ·have q0:(ie != 0)=true:=by simpa using h0
   obtain rfl:R=ie:=by rw[HD.out,colsR,if_pos h0]
   go_wp2
   all_goals (try (exfalso;go_light;simp_all;done))
   go_ret
   exact ⟨rfl,SG10.out⟩
  subst h0
  by_cases hmz:m=0
  ·subst hmz
   obtain rfl:R=8:=by rw[HD.out,colsR];simp[HM.out]
   go_wp2
   all_goals (try (exfalso;go_light;simp_all;done))
   go_ret
   exact ⟨rfl,SG10.out⟩
  have qz:((m:Int)==0)=false:=by simpa using hmz
  have HMZ:=hide hmz
  by_cases hm1:1<m
  ·have q1:decide (1<(m:Int))=true:=by simp;omega
   obtain rfl:R=8:=by rw[HD.out,colsR];simp[HM.out,hm1]
   go_wp2
   all_goals (try (exfalso;go_light;simp_all;done))
   go_ret
   exact ⟨rfl,SG10.out⟩
  have q1:decide (1<(m:Int))=false:=by simp;omega
  have HM1:=hide hm1
  obtain ⟨b0,o0,j0,rfl,hBb0,HX0,e0,_⟩:=HK.out.int (k:=0) (by omega)
  rw[Nat.add_zero]at e0
  have hr0:=HR1.out (by first|rfl|trivial) j0 (mem_of_drop HX0.out)
  rw[HCL.out]at hr0
  obtain ⟨i0,rfl⟩: ∃i:Nat,j0=(i:Int):=⟨j0.toNat,by omega⟩
  obtain ⟨bc,oc,y0,rfl,hBbc,HZ0,_,p0,_,_⟩:=HC.out.col (k:=i0) (by omega)
  have i00:(0:Int)<=(i0:Int):=by omega
  have i01:(i0:Int)<(n1:Int):=hr0.2
  have z01:(0:Int)<(m:Int):=by omega
  obtain ⟨k5,hk5⟩: ∃q,y0.kind=q:=⟨_,rfl⟩
  have e5:K0=k5:=by
   rw[<-HK0.out,getD_dr HX0.out,<-hk5]
   simp only[Int.toNat_natCast]
   rw[getD_dr HZ0.out]
  rw[hk5]at p0
  subst e5
  clear hk5 hr0 HX0 HZ0
  by_cases hk2:K0=2
  rotate_left
  ·have q2:(K0 != 2)=true:=by simpa using hk2
   obtain rfl:R=7:=by rw[HD.out,colsR];simp[HM.out,HMZ.out,HM1.out,hk2]
   go_wp2
   all_goals (try (exfalso;go_light;simp_all;done))
   go_ret
   exact ⟨rfl,SG10.out⟩
  subst hk2
  have q2:((2:Int) != 2)=false:=by decide
  go_wp2_with fail
  refine (usesO_any _ x.kind).mono ?_
  rintro e w11 ⟨rfl,hb11⟩
  have HN:=hide (HN.out.below hb11)
  have HN2:=hide (HN2.out.below hb11)
  have HC:=hide (HC.out.below hb11)
  have HO:=hide (HO.out.below hb11)
  have HK:=hide (HK.out.below hb11)
  obtain ⟨g0,g1,g2,g3,g4,g5,g6,g7,g8,g9,g10,g11,g12,g13,LR⟩:=bats14 hb11 LR g0 g1 g2 g3 g4 g5 g6 g7 g8 g9 g10 g11 g12 g13
  have SG12:=hide (below_trans SG10.out hb11)
  clear hb11
  rw[HU.out]
  cases U
  ·obtain rfl:R=0:=by rw[HD.out,colsR];simp[HM.out,HMZ.out,HM1.out]
   go_wp2
   all_goals (try (exfalso;go_light;simp_all;done))
   go_ret
   exact ⟨rfl,SG12.out⟩
  go_wp2_with fail
  refine (cols_any _ A2 n2 c2 ocols HO.out).mono ?_
  rintro e w13 ⟨rfl,hb13⟩
  have HN:=hide (HN.out.below hb13)
  have HN2:=hide (HN2.out.below hb13)
  have HC:=hide (HC.out.below hb13)
  have HO:=hide (HO.out.below hb13)
  have HK:=hide (HK.out.below hb13)
  obtain ⟨g0,g1,g2,g3,g4,g5,g6,g7,g8,g9,g10,g11,g12,g13,LR⟩:=bats14 hb13 LR g0 g1 g2 g3 g4 g5 g6 g7 g8 g9 g10 g11 g12 g13
  have SG14:=hide (below_trans SG12.out hb13)
  clear hb13
  rw[HCE.out]
  by_cases hce:CE=0
  ·subst hce
   go_wp2_with fail
   refine (HI2.out _ (by exact HO.out) (by exact HN2.out)).mono ?_
   rintro e w7 ⟨⟨v2,rfl,hov2⟩,hb7⟩
   obtain ⟨A5,c5,rfl⟩:=hov2.form
   obtain ⟨m2,hm2⟩: ∃m,os.length=m:=⟨_,rfl⟩
   have hk8:=ol_in hov2 rfl
   rw[hm2]at hk8⊢
   have HM2:=hide hm2
   clear hov2 hm2
   have HN:=hide (HN.out.below hb7)
   have HC:=hide (HC.out.below hb7)
   have HO:=hide (HO.out.below hb7)
   have HK:=hide (HK.out.below hb7)
   obtain ⟨g0,g1,g2,g3,g4,g5,g6,g7,g8,g9,g10,g11,g12,g13,LR⟩:=bats14 hb7 LR g0 g1 g2 g3 g4 g5 g6 g7 g8 g9 g10 g11 g12 g13
   have SG15:=hide (below_trans SG14.out hb7)
   clear hb7
   have HK2:=hide hk8
   clear hk8
   by_cases hoe:oe=0
   ·subst hoe
    by_cases hmm:m=m2
    ·subst hmm
     have HD2:Hid (R=if (List.zip is os).any (kdP cols ocols)=true then 7 else 0):=hide (by rw[HD.out,colsR];simp[HM.out,HMZ.out,HM1.out,HM2.out])
     obtain ⟨W5,rfl⟩: ∃W,W=w7:=⟨_,rfl⟩
     have h63:=HK.out.le
     go_wp2
     go_loopw [83] (λi wr=> ∃k:Nat,k<=m/\i=.int .i64 k/\(List.zip is os).any (kdP cols ocols)=((List.zip is os).drop k).any (kdP cols ocols)/\Below W5.heap.size W5 wr) (λi _=>m-(RowKit.intOf i).toNat)
     case atStart=>exact ⟨0,Nat.zero_le _,rfl,rfl,Below.refl _ _⟩
     case round=>
      obtain ⟨k,hk,rfl,heq,hb⟩:=hrel
      have HE:=hide heq
      clear heq
      have HN:=hide (HN.out.below hb)
      have HC:=hide (HC.out.below hb)
      have HO:=hide (HO.out.below hb)
      have HK:=hide (HK.out.below hb)
      have HK2:=hide (HK2.out.below hb)
      obtain ⟨g0,g1,g2,g3,g4,g5,g6,g7,g8,g9,g10,g11,g12,g13,LR⟩:=bats14 hb LR g0 g1 g2 g3 g4 g5 g6 g7 g8 g9 g10 g11 g12 g13
      have SG16:=hide hb
      clear hb
      clear g0 g1 g2 g3 g4 g5 g6 g7 g8 g9 g10 g11 g12 g13
      by_cases hlt:k<m
      ·obtain ⟨b,off,j1,hA4,hBb,HX,e0,_⟩:=HK.out.int hlt
       first|(subst hA4)|(injection hA4 with hA4;injection hA4 with hA5 hA6;subst hA5;subst hA6)
       obtain ⟨b2,off2,j2,rfl,hBb2,HY,f0,_⟩:=HK2.out.int hlt
       have hr1:=HR1.out (by first|rfl|trivial) j1 (mem_of_drop HX.out)
       have hr2:=HR2.out (by first|rfl|trivial) j2 (mem_of_drop HY.out)
       rw[HCL.out]at hr1
       rw[HOL.out]at hr2
       obtain ⟨i1,rfl⟩: ∃i:Nat,j1=(i:Int):=⟨j1.toNat,by omega⟩
       obtain ⟨i2,rfl⟩: ∃i:Nat,j2=(i:Int):=⟨j2.toNat,by omega⟩
       obtain ⟨b3,off3,y1,hA1,hBb3,HZ1,_,p1,_,_⟩:=HC.out.col (k:=i1) (by omega)
       first|(subst hA1)|(injection hA1 with hA1;injection hA1 with hA7 hA8;subst hA7;subst hA8)
       obtain ⟨b4,off4,y2,rfl,hBb4,HZ2,_,q1,_,_⟩:=HO.out.col (k:=i2) (by omega)
       have HZP:Hid ((List.zip is os).drop k=((i1:Int),(i2:Int)) :: (List.zip is os).drop (k+1)):=hide (by
        rw[List.zip,List.drop_zipWith,HX.out,HY.out,List.zipWith_cons_cons,List.drop_zipWith])
       have HKP:Hid (kdP cols ocols ((i1:Int),(i2:Int))=(y1.kind != y2.kind)):=hide (by
        rw[kdP]
        simp only[Int.toNat_natCast]
        rw[getD_dr HZ1.out,getD_dr HZ2.out])
       have k0:(0:Int)<=(k:Int):=by omega
       have k1:(k:Int)<(m:Int):=by omega
       have i10:(0:Int)<=(i1:Int):=by omega
       have i11:(i1:Int)<(n1:Int):=hr1.2
       have i20:(0:Int)<=(i2:Int):=by omega
       have i21:(i2:Int)<(n2:Int):=hr2.2
       have HBW:=hide SG16.out
       have HBB:=hide (below_trans SG15.out SG16.out)
       clear hr1 hr2 HZ1 HZ2 HX HY
       obtain ⟨k3,hk3⟩: ∃q,y1.kind=q:=⟨_,rfl⟩
       obtain ⟨k4,hk4⟩: ∃q,y2.kind=q:=⟨_,rfl⟩
       rw[hk3]at p1 HKP
       rw[hk4]at q1 HKP
       clear hk3 hk4
       go_wp2
       go_quiet (fail)
       by_cases hq:k3=k4
       ·subst hq
        have HN:Hid ((List.zip is os).any (kdP cols ocols)=((List.zip is os).drop (k+1)).any (kdP cols ocols)):=hide (by rw[HE.out,HZP.out,List.any_cons,HKP.out];simp)
        go_wp2
        all_goals (try (exfalso;go_light;simp_all;done))
        go_roundw
        case rel=>exact ⟨k+1,by omega,by go_num,HN.out,below_drewN HBW.out _⟩
        case measure=>simp[RowKit.intOf];omega
       ·have hq2:(k3 != k4)=true:=by simpa using hq
        obtain rfl:R=7:=by rw[HD2.out,HE.out,HZP.out,List.any_cons,HKP.out,hq2];simp
        go_wp2
        all_goals (try (exfalso;go_light;simp_all;done))
        go_ret
        exact ⟨rfl,below_drewN HBB.out _⟩
      ·obtain rfl:R=0:=by rw[HD2.out,HE.out,List.drop_eq_nil_of_le (by rw[List.length_zip,HM.out,HM2.out];omega)];rfl
       have HBB:=hide (below_trans SG15.out SG16.out)
       go_wp2
       all_goals (try (exfalso;go_light;simp_all;done))
       go_ret
       exact ⟨rfl,HBB.out⟩
    ·have q5:((m:Int) != (m2:Int))=true:=by simp;omega
     obtain rfl:R=8:=by rw[HD.out,colsR];simp[HM.out,HMZ.out,HM1.out,HM2.out,hmm]
     go_wp2
     all_goals (try (exfalso;go_light;simp_all;done))
     go_ret
     exact ⟨rfl,SG15.out⟩
   ·have q4:(oe != 0)=true:=by simpa using hoe
    obtain rfl:R=oe:=by rw[HD.out,colsR];simp[HM.out,HMZ.out,HM1.out,hoe]
    go_wp2
    all_goals (try (exfalso;go_light;simp_all;done))
    go_ret
    exact ⟨rfl,SG15.out⟩
  ·have q3:(CE != 0)=true:=by simpa using hce
   obtain rfl:R=CE:=by rw[HD.out,colsR];simp[HM.out,HMZ.out,HM1.out,hce]
   go_wp2
   all_goals (try (exfalso;go_light;simp_all;done))
   go_ret
   exact ⟨rfl,SG14.out⟩
 ·go_enter Tryz.func134,Tryz.ntmps134
  have HN:=hide hn
  clear hn
  have HN2:=hide hn'
  clear hn'
  have HC:=hide hc
  clear hc
  have HO:=hide ho
  clear ho
  go_wp2_with fail
  obtain ⟨W1,hW1⟩: ∃W,W=w.alloc (.cells #[.string x.name,.string x.table,.int .i64 x.kind,.slice A n c,.string x.other,.slice A' n' c',.int .i64 x.low,.int .i64 x.high,.slice A'' n'' c'',.int .i64 x.ln,.int .i64 x.ld,.int .i64 x.mn,.int .i64 x.md,.int .i64 x.policy] 27):=⟨_,rfl⟩
  obtain ⟨hbW1,SZW1,g0,g1,g2,g3,g4,g5,g6,g7,g8,g9,g10,g11,g12,g13⟩:=boxed14 hW1 rfl
  rw[<-hW1]
  clear hW1
  have HN:=hide (HN.out.below hbW1)
  have HN2:=hide (HN2.out.below hbW1)
  have HC:=hide (HC.out.below hbW1)
  have HO:=hide (HO.out.below hbW1)
  have SG17:=hide hbW1
  clear hbW1
  have LR:=lt_of_cell g0
  go_wp2_with fail
  refine (HI1.out _ (by exact HC.out) (by exact HN.out)).mono ?_
  rintro e w1 ⟨⟨v,rfl,hov⟩,hb1⟩
  obtain ⟨A4,c4,rfl⟩:=hov.form
  obtain ⟨m,hm⟩: ∃m,is.length=m:=⟨_,rfl⟩
  have hk9:=ol_in hov rfl
  rw[hm]at hk9⊢
  have HM:=hide hm
  clear hov hm
  have HN:=hide (HN.out.below hb1)
  have HN2:=hide (HN2.out.below hb1)
  have HC:=hide (HC.out.below hb1)
  have HO:=hide (HO.out.below hb1)
  obtain ⟨g0,g1,g2,g3,g4,g5,g6,g7,g8,g9,g10,g11,g12,g13,LR⟩:=bats14 hb1 LR g0 g1 g2 g3 g4 g5 g6 g7 g8 g9 g10 g11 g12 g13
  have SG18:=hide (below_trans SG17.out hb1)
  clear hb1
  have HK:=hide hk9
  clear hk9
  by_cases h0:ie=0
  rotate_left
  ·have q0:(ie != 0)=true:=by simpa using h0
   obtain rfl:R=ie:=by rw[HD.out,colsR,if_pos h0]
   go_wp2
   all_goals (try (exfalso;go_light;simp_all;done))
   go_ret
   exact ⟨rfl,SG18.out⟩
  subst h0
  by_cases hmz:m=0
  ·subst hmz
   obtain rfl:R=8:=by rw[HD.out,colsR];simp[HM.out]
   go_wp2
   all_goals (try (exfalso;go_light;simp_all;done))
   go_ret
   exact ⟨rfl,SG18.out⟩
  have qz:((m:Int)==0)=false:=by simpa using hmz
  have HMZ:=hide hmz
  go_wp2_with fail
  refine (usesO_any _ x.kind).mono ?_
  rintro e w19 ⟨rfl,hb19⟩
  have HN:=hide (HN.out.below hb19)
  have HN2:=hide (HN2.out.below hb19)
  have HC:=hide (HC.out.below hb19)
  have HO:=hide (HO.out.below hb19)
  have HK:=hide (HK.out.below hb19)
  obtain ⟨g0,g1,g2,g3,g4,g5,g6,g7,g8,g9,g10,g11,g12,g13,LR⟩:=bats14 hb19 LR g0 g1 g2 g3 g4 g5 g6 g7 g8 g9 g10 g11 g12 g13
  have SG20:=hide (below_trans SG18.out hb19)
  clear hb19
  rw[HU.out]
  cases U
  ·obtain rfl:R=0:=by rw[HD.out,colsR];simp[HM.out,HMZ.out]
   go_wp2
   all_goals (try (exfalso;go_light;simp_all;done))
   go_ret
   exact ⟨rfl,SG20.out⟩
  go_wp2_with fail
  refine (cols_any _ A2 n2 c2 ocols HO.out).mono ?_
  rintro e w21 ⟨rfl,hb21⟩
  have HN:=hide (HN.out.below hb21)
  have HN2:=hide (HN2.out.below hb21)
  have HC:=hide (HC.out.below hb21)
  have HO:=hide (HO.out.below hb21)
  have HK:=hide (HK.out.below hb21)
  obtain ⟨g0,g1,g2,g3,g4,g5,g6,g7,g8,g9,g10,g11,g12,g13,LR⟩:=bats14 hb21 LR g0 g1 g2 g3 g4 g5 g6 g7 g8 g9 g10 g11 g12 g13
  have SG22:=hide (below_trans SG20.out hb21)
  clear hb21
  rw[HCE.out]
  by_cases hce:CE=0
  ·subst hce
   go_wp2_with fail
   refine (HI2.out _ (by exact HO.out) (by exact HN2.out)).mono ?_
   rintro e w7 ⟨⟨v2,rfl,hov2⟩,hb7⟩
   obtain ⟨A5,c5,rfl⟩:=hov2.form
   obtain ⟨m2,hm2⟩: ∃m,os.length=m:=⟨_,rfl⟩
   have hk8:=ol_in hov2 rfl
   rw[hm2]at hk8⊢
   have HM2:=hide hm2
   clear hov2 hm2
   have HN:=hide (HN.out.below hb7)
   have HC:=hide (HC.out.below hb7)
   have HO:=hide (HO.out.below hb7)
   have HK:=hide (HK.out.below hb7)
   obtain ⟨g0,g1,g2,g3,g4,g5,g6,g7,g8,g9,g10,g11,g12,g13,LR⟩:=bats14 hb7 LR g0 g1 g2 g3 g4 g5 g6 g7 g8 g9 g10 g11 g12 g13
   have SG23:=hide (below_trans SG22.out hb7)
   clear hb7
   have HK2:=hide hk8
   clear hk8
   by_cases hoe:oe=0
   ·subst hoe
    by_cases hmm:m=m2
    ·subst hmm
     have HD2:Hid (R=if (List.zip is os).any (kdP cols ocols)=true then 7 else 0):=hide (by rw[HD.out,colsR];simp[HM.out,HMZ.out,HM2.out])
     obtain ⟨W5,rfl⟩: ∃W,W=w7:=⟨_,rfl⟩
     have h63:=HK.out.le
     go_wp2
     go_loopw [83] (λi wr=> ∃k:Nat,k<=m/\i=.int .i64 k/\(List.zip is os).any (kdP cols ocols)=((List.zip is os).drop k).any (kdP cols ocols)/\Below W5.heap.size W5 wr) (λi _=>m-(RowKit.intOf i).toNat)
     case atStart=>exact ⟨0,Nat.zero_le _,rfl,rfl,Below.refl _ _⟩
     case round=>
      obtain ⟨k,hk,rfl,heq,hb⟩:=hrel
      have HE:=hide heq
      clear heq
      have HN:=hide (HN.out.below hb)
      have HC:=hide (HC.out.below hb)
      have HO:=hide (HO.out.below hb)
      have HK:=hide (HK.out.below hb)
      have HK2:=hide (HK2.out.below hb)
      obtain ⟨g0,g1,g2,g3,g4,g5,g6,g7,g8,g9,g10,g11,g12,g13,LR⟩:=bats14 hb LR g0 g1 g2 g3 g4 g5 g6 g7 g8 g9 g10 g11 g12 g13
      have SG24:=hide hb
      clear hb
      clear g0 g1 g2 g3 g4 g5 g6 g7 g8 g9 g10 g11 g12 g13
      by_cases hlt:k<m
      ·obtain ⟨b,off,j1,hA4,hBb,HX,e0,_⟩:=HK.out.int hlt
       first|(subst hA4)|(injection hA4 with hA4;injection hA4 with hA5 hA6;subst hA5;subst hA6)
       obtain ⟨b2,off2,j2,rfl,hBb2,HY,f0,_⟩:=HK2.out.int hlt
       have hr1:=HR1.out (by first|rfl|trivial) j1 (mem_of_drop HX.out)
       have hr2:=HR2.out (by first|rfl|trivial) j2 (mem_of_drop HY.out)
       rw[HCL.out]at hr1
       rw[HOL.out]at hr2
       obtain ⟨i1,rfl⟩: ∃i:Nat,j1=(i:Int):=⟨j1.toNat,by omega⟩
       obtain ⟨i2,rfl⟩: ∃i:Nat,j2=(i:Int):=⟨j2.toNat,by omega⟩
       obtain ⟨b3,off3,y1,hA1,hBb3,HZ1,_,p1,_,_⟩:=HC.out.col (k:=i1) (by omega)
       first|(subst hA1)|(injection hA1 with hA1;injection hA1 with hA7 hA8;subst hA7;subst hA8)
       obtain ⟨b4,off4,y2,rfl,hBb4,HZ2,_,q1,_,_⟩:=HO.out.col (k:=i2) (by omega)
       have HZP:Hid ((List.zip is os).drop k=((i1:Int),(i2:Int)) :: (List.zip is os).drop (k+1)):=hide (by
        rw[List.zip,List.drop_zipWith,HX.out,HY.out,List.zipWith_cons_cons,List.drop_zipWith])
       have HKP:Hid (kdP cols ocols ((i1:Int),(i2:Int))=(y1.kind != y2.kind)):=hide (by
        rw[kdP]
        simp only[Int.toNat_natCast]
        rw[getD_dr HZ1.out,getD_dr HZ2.out])
       have k0:(0:Int)<=(k:Int):=by omega
       have k1:(k:Int)<(m:Int):=by omega
       have i10:(0:Int)<=(i1:Int):=by omega
       have i11:(i1:Int)<(n1:Int):=hr1.2
       have i20:(0:Int)<=(i2:Int):=by omega
       have i21:(i2:Int)<(n2:Int):=hr2.2
       have HBW:=hide SG24.out
       have HBB:=hide (below_trans SG23.out SG24.out)
       clear hr1 hr2 HZ1 HZ2 HX HY
       obtain ⟨k3,hk3⟩: ∃q,y1.kind=q:=⟨_,rfl⟩
       obtain ⟨k4,hk4⟩: ∃q,y2.kind=q:=⟨_,rfl⟩
       rw[hk3]at p1 HKP
       rw[hk4]at q1 HKP
       clear hk3 hk4
       go_wp2
       go_quiet (fail)
       by_cases hq:k3=k4
       ·subst hq
        have HN:Hid ((List.zip is os).any (kdP cols ocols)=((List.zip is os).drop (k+1)).any (kdP cols ocols)):=hide (by rw[HE.out,HZP.out,List.any_cons,HKP.out];simp)
        go_wp2
        all_goals (try (exfalso;go_light;simp_all;done))
        go_roundw
        case rel=>exact ⟨k+1,by omega,by go_num,HN.out,below_drewN HBW.out _⟩
        case measure=>simp[RowKit.intOf];omega
       ·have hq2:(k3 != k4)=true:=by simpa using hq
        obtain rfl:R=7:=by rw[HD2.out,HE.out,HZP.out,List.any_cons,HKP.out,hq2];simp
        go_wp2
        all_goals (try (exfalso;go_light;simp_all;done))
        go_ret
        exact ⟨rfl,below_drewN HBB.out _⟩
      ·obtain rfl:R=0:=by rw[HD2.out,HE.out,List.drop_eq_nil_of_le (by rw[List.length_zip,HM.out,HM2.out];omega)];rfl
       have HBB:=hide (below_trans SG23.out SG24.out)
       go_wp2
       all_goals (try (exfalso;go_light;simp_all;done))
       go_ret
       exact ⟨rfl,HBB.out⟩
    ·have q5:((m:Int) != (m2:Int))=true:=by simp;omega
     obtain rfl:R=8:=by rw[HD.out,colsR];simp[HM.out,HMZ.out,HM2.out,hmm]
     go_wp2
     all_goals (try (exfalso;go_light;simp_all;done))
     go_ret
     exact ⟨rfl,SG23.out⟩
   ·have q4:(oe != 0)=true:=by simpa using hoe
    obtain rfl:R=oe:=by rw[HD.out,colsR];simp[HM.out,HMZ.out,hoe]
    go_wp2
    all_goals (try (exfalso;go_light;simp_all;done))
    go_ret
    exact ⟨rfl,SG23.out⟩
  ·have q3:(CE != 0)=true:=by simpa using hce
   obtain rfl:R=CE:=by rw[HD.out,colsR];simp[HM.out,HMZ.out,hce]
   go_wp2
   all_goals (try (exfalso;go_light;simp_all;done))
   go_ret
   exact ⟨rfl,SG22.out⟩
end Go.Proofs.YtggejcekmehocaaGreatDoor
