/-
  check.checkColumns.
-/
import Derived.Test.YtggejcekmehocaaGreatDoorGax
namespace Go.Proofs.YtggejcekmehocaaGreatDoor
set_option maxHeartbeats 4000000
set_option maxRecDepth 100000
open Go.RowKit
set_option linter.unusedSimpArgs false
set_option linter.unusedVariables false
def nR (cols ocols:List Col)(p:Int×Int):Bool:=(cols.getD p.1.toNat default).kind != (ocols.getD p.2.toNat default).kind
def bE (sg U:Bool)(ie:Int)(is:List Int)(k0 ce oe:Int)(os:List Int)(df:Bool):Int:=
 if ie≠0 then ie else if is.length=0\/(sg=true/\1<is.length) then 8 else if sg=true/\k0≠2 then 7 else if U=false then 0
 else if ce≠0 then ce else if oe≠0 then oe else if is.length≠os.length then 8 else if df=true then 7 else 0
theorem qB (c:Chk)(cols ocols:List Col):kz c cols ocols=
  bE (c.kind==2 || c.kind==6) (cK c.kind) (aW cols c.cols).1 (aW cols c.cols).2 (cols.getD ((aW cols c.cols).2.getD 0 0).toNat default).kind (aA ocols) (aW ocols c.ocols).1 (aW ocols c.ocols).2 ((List.zip (aW cols c.cols).2 (aW ocols c.ocols).2).any (nR cols ocols)):=by
 simp only[kz,bE,Bool.or_eq_true,beq_iff_eq];rfl
theorem lU {cols:List Col}{names:List ByteArray}(h:(aW cols names).1=0): ∀y∈(aW cols names).2,0<=y/\y<(cols.length:Int):=λy hy=>by
 obtain ⟨h1,h2,_⟩:=jF h;rw[h1]at hy;obtain ⟨s,hs,rfl⟩:=List.mem_map.1 hy;exact h2 s hs
theorem dQ {α:Type}{xs:List α}{k:Nat}{x d:α}{l:List α}(h:xs.drop k=x :: l):xs.getD k d=x:=by
 rw[List.getD_eq_getElem?_getD,(bX h).1];rfl
theorem wN (w:World)(x:Chk)(A:Option Addr)(n c:Nat)(hn:In w A n c x.cols)(A':Option Addr)(n' c':Nat)(hn':In w A' n' c' x.ocols)(aK:Option Addr)(n'' c'':Nat)(A1:Option Addr)(n1 c1:Nat)(cols:List Col)(hc:In w A1 n1 c1 cols)(A2:Option Addr)(n2 c2:Nat)(ocols:List Col)(ho:In w A2 n2 c2 ocols)(hb0:n<=4096)(hb1:n'<=4096)(hb2:n1<=4096)(hb3:n2<=4096):
  Calls Tryz.prog 134 #[.agg (ak x A n c A' n' c' aK n'' c'').toArray,.slice A1 n1 c1,.slice A2 n2 c2] w λe w'=>e=.returned (.int .i64 (kz x cols ocols))/\Below w.heap.size w w':=by
 have HD:=hide (qB x cols ocols);have HI1:=hide λW hx hy=>nW W A1 n1 c1 cols hx A n c x.cols hy (by omega) (by omega);have HI2:=hide λW hx hy=>nW W A2 n2 c2 ocols hx A' n' c' x.ocols hy (by omega) (by omega);have HR1:=hide (λh=>lU (cols:=cols) (names:=x.cols) h);have HR2:=hide (λh=>lU (cols:=ocols) (names:=x.ocols) h);have yG:=hide (Nat.le_trans (iN cols x.cols) (by rw[hn.len];exact hb0));have yH:=hide (Nat.le_trans (iN ocols x.ocols) (by rw[hn'.len];exact hb1));have IR:=hide hc.len;have oP:=hide ho.len;obtain ⟨R,hR⟩: ∃R,kz x cols ocols=R:=⟨_,rfl⟩;obtain ⟨I1,hI1⟩: ∃I,aW cols x.cols=I:=⟨_,rfl⟩;obtain ⟨I2,hI2⟩: ∃I,aW ocols x.ocols=I:=⟨_,rfl⟩;obtain ⟨U,hU⟩: ∃U,cK x.kind=U:=⟨_,rfl⟩;rw[hR,hI1,hI2,hU]at HD;rw[hI1]at HI1 HR1 yG;rw[hI2]at HI2 HR2 yH;rw[hR];have HU:=hide hU;clear hR hI1 hI2 hU;obtain ⟨ie,is⟩:=I1;obtain ⟨oe,os⟩:=I2;simp only at HD HI1 HI2 HR1 HR2 yG yH;obtain ⟨K0,Gz⟩: ∃K,(cols.getD (is.getD 0 0).toNat default).kind=K:=⟨_,rfl⟩;rw[Gz]at HD;have NU:=hide Gz;clear Gz;obtain ⟨CE,CY⟩: ∃CE,aA ocols=CE:=⟨_,rfl⟩;rw[CY]at HD;have Hu:=hide CY;obtain ⟨sg,hsg⟩: ∃s,(x.kind==2 || x.kind==6)=s:=⟨_,rfl⟩;rw[hsg]at HD;clear CY;have hk:((x.kind==2)=true/\sg=true)\/((x.kind==2)=false/\(x.kind==6)=true/\sg=true)\/((x.kind==2)=false/\(x.kind==6)=false/\sg=false):=by
  cases h1:(x.kind==2) <;> cases h2:(x.kind==6) <;> simp[h1,h2]at hsg <;> simp[hsg]
 clear hsg;simp only[ak];rcases hk with ⟨h2,rfl⟩|⟨h2,h6,rfl⟩|⟨h2,h6,rfl⟩
 ·go_enter Tryz.func134,Tryz.ntmps134;have HN:=hide hn;clear hn;have eY:=hide hn';clear hn';have HC:=hide hc;clear hc;have HO:=hide ho;clear ho;go_wp2_with fail;obtain ⟨W1,hW1⟩: ∃W,W=w.alloc (.cells #[.string x.name,.string x.table,.int .i64 x.kind,.slice A n c,.string x.other,.slice A' n' c',.int .i64 x.low,.int .i64 x.high,.slice aK n'' c'',.int .i64 x.ln,.int .i64 x.ld,.int .i64 x.mn,.int .i64 x.md,.int .i64 x.policy] 27):=⟨_,rfl⟩;obtain ⟨hbW1,gB,g0,g1,g2,g3,g4,g5,g6,g7,g8,g9,g10,g11,g12,g13⟩:=bM hW1 rfl;rw[<-hW1];clear hW1;have HN:=hide (HN.out.below hbW1);have eY:=hide (eY.out.below hbW1);have HC:=hide (HC.out.below hbW1);have HO:=hide (HO.out.below hbW1);have p8:=hide hbW1;clear hbW1;have LR:=lt_of_cell g0;go_wp2_with fail;refine (HI1.out _ (by exact HC.out) (by exact HN.out)).mono ?_;rintro e w1 ⟨⟨v,rfl,hov⟩,hb1⟩;obtain ⟨A4,c4,rfl⟩:=hov.form;obtain ⟨m,hm⟩: ∃m,is.length=m:=⟨_,rfl⟩;have zo:=ol_in hov rfl;rw[hm]at zo⊢;have HM:=hide hm;clear hov hm;have HN:=hide (HN.out.below hb1);have eY:=hide (eY.out.below hb1);have HC:=hide (HC.out.below hb1);have HO:=hide (HO.out.below hb1);obtain ⟨g0,g1,g2,g3,g4,g5,g6,g7,g8,g9,g10,g11,g12,g13,LR⟩:=dD hb1 LR g0 g1 g2 g3 g4 g5 g6 g7 g8 g9 g10 g11 g12 g13;have fq:=hide (aa p8.out hb1);clear hb1;have HK:=hide zo;clear zo;by_cases h0:ie=0;rotate_left
  ·have q0:(ie != 0)=true:=by simpa using h0
   obtain rfl:R=ie:=by rw[HD.out,bE,if_pos h0]
   go_wp2;all_goals (try (exfalso;go_light;simp_all;done));go_ret;exact ⟨rfl,fq.out⟩
  subst h0;by_cases hmz:m=0
  ·subst hmz;obtain rfl:R=8:=by rw[HD.out,bE];simp[HM.out]
   go_wp2;all_goals (try (exfalso;go_light;simp_all;done));go_ret;exact ⟨rfl,fq.out⟩
  have qz:((m:Int)==0)=false:=by simpa using hmz
  have qd:=hide hmz;by_cases hm1:1<m
  ·have q1:decide (1<(m:Int))=true:=by simp;omega
   obtain rfl:R=8:=by rw[HD.out,bE];simp[HM.out,hm1]
   go_wp2;all_goals (try (exfalso;go_light;simp_all;done));go_ret;exact ⟨rfl,fq.out⟩
  have q1:decide (1<(m:Int))=false:=by simp;omega
  have wy:=hide hm1;obtain ⟨b0,o0,j0,rfl,O8,HX0,e0,_⟩:=HK.out.int (k:=0) (by omega);rw[Nat.add_zero]at e0;have hr0:=HR1.out (by first|rfl|trivial) j0 (mem_of_drop HX0.out);rw[IR.out]at hr0;obtain ⟨i0,rfl⟩: ∃i:Nat,j0=(i:Int):=⟨j0.toNat,by omega⟩;obtain ⟨bc,oc,y0,rfl,RH,HZ0,_,p0,_,_⟩:=HC.out.col (k:=i0) (by omega);have XX:(0:Int)<=(i0:Int):=by omega
  have XY:(i0:Int)<(n1:Int):=hr0.2;have Yf:(0:Int)<(m:Int):=by omega
  obtain ⟨k5,hk5⟩: ∃q,y0.kind=q:=⟨_,rfl⟩;have e5:K0=k5:=by
   rw[<-NU.out,dQ HX0.out,<-hk5];simp only[Int.toNat_natCast];rw[dQ HZ0.out]
  rw[hk5]at p0;subst e5;clear hk5 hr0 HX0 HZ0;by_cases hk2:K0=2;rotate_left
  ·have q2:(K0 != 2)=true:=by simpa using hk2
   obtain rfl:R=7:=by rw[HD.out,bE];simp[HM.out,qd.out,wy.out,hk2]
   go_wp2;all_goals (try (exfalso;go_light;simp_all;done));go_ret;exact ⟨rfl,fq.out⟩
  subst hk2;have q2:((2:Int) != 2)=false:=by decide
  go_wp2_with fail;refine (tq _ x.kind).mono ?_;rintro e w3 ⟨rfl,hb3⟩;have HN:=hide (HN.out.below hb3);have eY:=hide (eY.out.below hb3);have HC:=hide (HC.out.below hb3);have HO:=hide (HO.out.below hb3);have HK:=hide (HK.out.below hb3);obtain ⟨g0,g1,g2,g3,g4,g5,g6,g7,g8,g9,g10,g11,g12,g13,LR⟩:=dD hb3 LR g0 g1 g2 g3 g4 g5 g6 g7 g8 g9 g10 g11 g12 g13;have kK:=hide (aa fq.out hb3);clear hb3;rw[HU.out];cases U
  ·obtain rfl:R=0:=by rw[HD.out,bE];simp[HM.out,qd.out,wy.out]
   go_wp2;all_goals (try (exfalso;go_light;simp_all;done));go_ret;exact ⟨rfl,kK.out⟩
  go_wp2_with fail;refine (pG _ A2 n2 c2 ocols HO.out).mono ?_;rintro e w5 ⟨rfl,hb5⟩;have HN:=hide (HN.out.below hb5);have eY:=hide (eY.out.below hb5);have HC:=hide (HC.out.below hb5);have HO:=hide (HO.out.below hb5);have HK:=hide (HK.out.below hb5);obtain ⟨g0,g1,g2,g3,g4,g5,g6,g7,g8,g9,g10,g11,g12,g13,LR⟩:=dD hb5 LR g0 g1 g2 g3 g4 g5 g6 g7 g8 g9 g10 g11 g12 g13;have ul:=hide (aa kK.out hb5);clear hb5;rw[Hu.out];by_cases hce:CE=0
  ·subst hce;go_wp2_with fail;refine (HI2.out _ (by exact HO.out) (by exact eY.out)).mono ?_;rintro e w7 ⟨⟨v2,rfl,nH⟩,cu⟩;obtain ⟨A5,c5,rfl⟩:=nH.form;obtain ⟨m2,hm2⟩: ∃m,os.length=m:=⟨_,rfl⟩;have zn:=ol_in nH rfl;rw[hm2]at zn⊢;have qc:=hide hm2;clear nH hm2;have HN:=hide (HN.out.below cu);have HC:=hide (HC.out.below cu);have HO:=hide (HO.out.below cu);have HK:=hide (HK.out.below cu);obtain ⟨g0,g1,g2,g3,g4,g5,g6,g7,g8,g9,g10,g11,g12,g13,LR⟩:=dD cu LR g0 g1 g2 g3 g4 g5 g6 g7 g8 g9 g10 g11 g12 g13;have mH:=hide (aa ul.out cu);clear cu;have xx:=hide zn;clear zn;by_cases hoe:oe=0
   ·subst hoe;by_cases hmm:m=m2
    ·subst hmm;have HD2:Hid (R=if (List.zip is os).any (nR cols ocols)=true then 7 else 0):=hide (by rw[HD.out,bE];simp[HM.out,qd.out,wy.out,qc.out]);obtain ⟨W5,rfl⟩: ∃W,W=w7:=⟨_,rfl⟩;have h63:=HK.out.le;go_wp2;go_loopw [83] (λi wr=> ∃k:Nat,k<=m/\i=.int .i64 k/\(List.zip is os).any (nR cols ocols)=((List.zip is os).drop k).any (nR cols ocols)/\Below W5.heap.size W5 wr) (λi _=>m-(RowKit.intOf i).toNat)
     case atStart=>exact ⟨0,Nat.zero_le _,rfl,rfl,Below.refl _ _⟩
     case round=>
      obtain ⟨k,hk,rfl,heq,hb⟩:=hrel;have HE:=hide heq;clear heq;have HN:=hide (HN.out.below hb);have HC:=hide (HC.out.below hb);have HO:=hide (HO.out.below hb);have HK:=hide (HK.out.below hb);have xx:=hide (xx.out.below hb);obtain ⟨g0,g1,g2,g3,g4,g5,g6,g7,g8,g9,g10,g11,g12,g13,LR⟩:=dD hb LR g0 g1 g2 g3 g4 g5 g6 g7 g8 g9 g10 g11 g12 g13;have qU:=hide hb;clear hb;clear g0 g1 g2 g3 g4 g5 g6 g7 g8 g9 g10 g11 g12 g13;by_cases hlt:k<m
      ·obtain ⟨b,off,j1,vg,hBb,HX,e0,_⟩:=HK.out.int hlt
       first|(subst vg)|(injection vg with vg;injection vg with hA5 hA6;subst hA5;subst hA6)
       obtain ⟨b2,MQ,j2,rfl,LW,HY,f0,_⟩:=xx.out.int hlt;have hr1:=HR1.out (by first|rfl|trivial) j1 (mem_of_drop HX.out);have hr2:=HR2.out (by first|rfl|trivial) j2 (mem_of_drop HY.out);rw[IR.out]at hr1;rw[oP.out]at hr2;obtain ⟨i1,rfl⟩: ∃i:Nat,j1=(i:Int):=⟨j1.toNat,by omega⟩;obtain ⟨i2,rfl⟩: ∃i:Nat,j2=(i:Int):=⟨j2.toNat,by omega⟩;obtain ⟨b3,Dn,y1,hA1,LY,HZ1,_,p1,_,_⟩:=HC.out.col (k:=i1) (by omega)
       first|(subst hA1)|(injection hA1 with hA1;injection hA1 with hA7 hA8;subst hA7;subst hA8)
       obtain ⟨b4,MR,y2,rfl,L8,HZ2,_,q1,_,_⟩:=HO.out.col (k:=i2) (by omega);have DR:Hid ((List.zip is os).drop k=((i1:Int),(i2:Int)) :: (List.zip is os).drop (k+1)):=hide (by
        rw[List.zip,List.drop_zipWith,HX.out,HY.out,List.zipWith_cons_cons,List.drop_zipWith])
       have uK:Hid (nR cols ocols ((i1:Int),(i2:Int))=(y1.kind != y2.kind)):=hide (by
        rw[nR];simp only[Int.toNat_natCast];rw[dQ HZ1.out,dQ HZ2.out])
       have k0:(0:Int)<=(k:Int):=by omega
       have k1:(k:Int)<(m:Int):=by omega
       have UX:(0:Int)<=(i1:Int):=by omega
       have i11:(i1:Int)<(n1:Int):=hr1.2;have i20:(0:Int)<=(i2:Int):=by omega
       have i21:(i2:Int)<(n2:Int):=hr2.2;have jZ:=hide qU.out;have tH:=hide (aa mH.out qU.out);clear hr1 hr2 HZ1 HZ2 HX HY;obtain ⟨k3,hk3⟩: ∃q,y1.kind=q:=⟨_,rfl⟩;obtain ⟨k4,hk4⟩: ∃q,y2.kind=q:=⟨_,rfl⟩;rw[hk3]at p1 uK;rw[hk4]at q1 uK;clear hk3 hk4;go_wp2;go_quiet (fail);by_cases hq:k3=k4
       ·subst hq;have HN:Hid ((List.zip is os).any (nR cols ocols)=((List.zip is os).drop (k+1)).any (nR cols ocols)):=hide (by rw[HE.out,DR.out,List.any_cons,uK.out];simp);go_wp2;all_goals (try (exfalso;go_light;simp_all;done));go_roundw
        case rel=>exact ⟨k+1,by omega,by go_num,HN.out,below_drewN jZ.out _⟩
        case measure=>simp[RowKit.intOf];omega
       ·have hq2:(k3 != k4)=true:=by simpa using hq
        obtain rfl:R=7:=by rw[HD2.out,HE.out,DR.out,List.any_cons,uK.out,hq2];simp
        go_wp2;all_goals (try (exfalso;go_light;simp_all;done));go_ret;exact ⟨rfl,below_drewN tH.out _⟩
      ·obtain rfl:R=0:=by rw[HD2.out,HE.out,List.drop_eq_nil_of_le (by rw[List.length_zip,HM.out,qc.out];omega)];rfl
       have tH:=hide (aa mH.out qU.out);go_wp2;all_goals (try (exfalso;go_light;simp_all;done));go_ret;exact ⟨rfl,tH.out⟩
    ·have q5:((m:Int) != (m2:Int))=true:=by simp;omega
     obtain rfl:R=8:=by rw[HD.out,bE];simp[HM.out,qd.out,wy.out,qc.out,hmm]
     go_wp2;all_goals (try (exfalso;go_light;simp_all;done));go_ret;exact ⟨rfl,mH.out⟩
   ·have q4:(oe != 0)=true:=by simpa using hoe
    obtain rfl:R=oe:=by rw[HD.out,bE];simp[HM.out,qd.out,wy.out,hoe]
    go_wp2;all_goals (try (exfalso;go_light;simp_all;done));go_ret;exact ⟨rfl,mH.out⟩
  ·have q3:(CE != 0)=true:=by simpa using hce
   obtain rfl:R=CE:=by rw[HD.out,bE];simp[HM.out,qd.out,wy.out,hce]
   go_wp2;all_goals (try (exfalso;go_light;simp_all;done));go_ret;exact ⟨rfl,ul.out⟩
 ·go_enter Tryz.func134,Tryz.ntmps134;have HN:=hide hn;clear hn;have eY:=hide hn';clear hn';have HC:=hide hc;clear hc;have HO:=hide ho;clear ho;go_wp2_with fail;obtain ⟨W1,hW1⟩: ∃W,W=w.alloc (.cells #[.string x.name,.string x.table,.int .i64 x.kind,.slice A n c,.string x.other,.slice A' n' c',.int .i64 x.low,.int .i64 x.high,.slice aK n'' c'',.int .i64 x.ln,.int .i64 x.ld,.int .i64 x.mn,.int .i64 x.md,.int .i64 x.policy] 27):=⟨_,rfl⟩;obtain ⟨hbW1,gB,g0,g1,g2,g3,g4,g5,g6,g7,g8,g9,g10,g11,g12,g13⟩:=bM hW1 rfl;rw[<-hW1];clear hW1;have HN:=hide (HN.out.below hbW1);have eY:=hide (eY.out.below hbW1);have HC:=hide (HC.out.below hbW1);have HO:=hide (HO.out.below hbW1);have oQ:=hide hbW1;clear hbW1;have LR:=lt_of_cell g0;go_wp2_with fail;refine (HI1.out _ (by exact HC.out) (by exact HN.out)).mono ?_;rintro e w1 ⟨⟨v,rfl,hov⟩,hb1⟩;obtain ⟨A4,c4,rfl⟩:=hov.form;obtain ⟨m,hm⟩: ∃m,is.length=m:=⟨_,rfl⟩;have zo:=ol_in hov rfl;rw[hm]at zo⊢;have HM:=hide hm;clear hov hm;have HN:=hide (HN.out.below hb1);have eY:=hide (eY.out.below hb1);have HC:=hide (HC.out.below hb1);have HO:=hide (HO.out.below hb1);obtain ⟨g0,g1,g2,g3,g4,g5,g6,g7,g8,g9,g10,g11,g12,g13,LR⟩:=dD hb1 LR g0 g1 g2 g3 g4 g5 g6 g7 g8 g9 g10 g11 g12 g13;have gL:=hide (aa oQ.out hb1);clear hb1;have HK:=hide zo;clear zo;by_cases h0:ie=0;rotate_left
  ·have q0:(ie != 0)=true:=by simpa using h0
   obtain rfl:R=ie:=by rw[HD.out,bE,if_pos h0]
   go_wp2;all_goals (try (exfalso;go_light;simp_all;done));go_ret;exact ⟨rfl,gL.out⟩
  subst h0;by_cases hmz:m=0
  ·subst hmz;obtain rfl:R=8:=by rw[HD.out,bE];simp[HM.out]
   go_wp2;all_goals (try (exfalso;go_light;simp_all;done));go_ret;exact ⟨rfl,gL.out⟩
  have qz:((m:Int)==0)=false:=by simpa using hmz
  have qd:=hide hmz;by_cases hm1:1<m
  ·have q1:decide (1<(m:Int))=true:=by simp;omega
   obtain rfl:R=8:=by rw[HD.out,bE];simp[HM.out,hm1]
   go_wp2;all_goals (try (exfalso;go_light;simp_all;done));go_ret;exact ⟨rfl,gL.out⟩
  have q1:decide (1<(m:Int))=false:=by simp;omega
  have wy:=hide hm1;obtain ⟨b0,o0,j0,rfl,O8,HX0,e0,_⟩:=HK.out.int (k:=0) (by omega);rw[Nat.add_zero]at e0;have hr0:=HR1.out (by first|rfl|trivial) j0 (mem_of_drop HX0.out);rw[IR.out]at hr0;obtain ⟨i0,rfl⟩: ∃i:Nat,j0=(i:Int):=⟨j0.toNat,by omega⟩;obtain ⟨bc,oc,y0,rfl,RH,HZ0,_,p0,_,_⟩:=HC.out.col (k:=i0) (by omega);have XX:(0:Int)<=(i0:Int):=by omega
  have XY:(i0:Int)<(n1:Int):=hr0.2;have Yf:(0:Int)<(m:Int):=by omega
  obtain ⟨k5,hk5⟩: ∃q,y0.kind=q:=⟨_,rfl⟩;have e5:K0=k5:=by
   rw[<-NU.out,dQ HX0.out,<-hk5];simp only[Int.toNat_natCast];rw[dQ HZ0.out]
  rw[hk5]at p0;subst e5;clear hk5 hr0 HX0 HZ0;by_cases hk2:K0=2;rotate_left
  ·have q2:(K0 != 2)=true:=by simpa using hk2
   obtain rfl:R=7:=by rw[HD.out,bE];simp[HM.out,qd.out,wy.out,hk2]
   go_wp2;all_goals (try (exfalso;go_light;simp_all;done));go_ret;exact ⟨rfl,gL.out⟩
  subst hk2;have q2:((2:Int) != 2)=false:=by decide
  go_wp2_with fail;refine (tq _ x.kind).mono ?_;rintro e Hq ⟨rfl,fT⟩;have HN:=hide (HN.out.below fT);have eY:=hide (eY.out.below fT);have HC:=hide (HC.out.below fT);have HO:=hide (HO.out.below fT);have HK:=hide (HK.out.below fT);obtain ⟨g0,g1,g2,g3,g4,g5,g6,g7,g8,g9,g10,g11,g12,g13,LR⟩:=dD fT LR g0 g1 g2 g3 g4 g5 g6 g7 g8 g9 g10 g11 g12 g13;have jw:=hide (aa gL.out fT);clear fT;rw[HU.out];cases U
  ·obtain rfl:R=0:=by rw[HD.out,bE];simp[HM.out,qd.out,wy.out]
   go_wp2;all_goals (try (exfalso;go_light;simp_all;done));go_ret;exact ⟨rfl,jw.out⟩
  go_wp2_with fail;refine (pG _ A2 n2 c2 ocols HO.out).mono ?_;rintro e Yd ⟨rfl,nG⟩;have HN:=hide (HN.out.below nG);have eY:=hide (eY.out.below nG);have HC:=hide (HC.out.below nG);have HO:=hide (HO.out.below nG);have HK:=hide (HK.out.below nG);obtain ⟨g0,g1,g2,g3,g4,g5,g6,g7,g8,g9,g10,g11,g12,g13,LR⟩:=dD nG LR g0 g1 g2 g3 g4 g5 g6 g7 g8 g9 g10 g11 g12 g13;have qi:=hide (aa jw.out nG);clear nG;rw[Hu.out];by_cases hce:CE=0
  ·subst hce;go_wp2_with fail;refine (HI2.out _ (by exact HO.out) (by exact eY.out)).mono ?_;rintro e w7 ⟨⟨v2,rfl,nH⟩,cu⟩;obtain ⟨A5,c5,rfl⟩:=nH.form;obtain ⟨m2,hm2⟩: ∃m,os.length=m:=⟨_,rfl⟩;have zn:=ol_in nH rfl;rw[hm2]at zn⊢;have qc:=hide hm2;clear nH hm2;have HN:=hide (HN.out.below cu);have HC:=hide (HC.out.below cu);have HO:=hide (HO.out.below cu);have HK:=hide (HK.out.below cu);obtain ⟨g0,g1,g2,g3,g4,g5,g6,g7,g8,g9,g10,g11,g12,g13,LR⟩:=dD cu LR g0 g1 g2 g3 g4 g5 g6 g7 g8 g9 g10 g11 g12 g13;have Av:=hide (aa qi.out cu);clear cu;have xx:=hide zn;clear zn;by_cases hoe:oe=0
   ·subst hoe;by_cases hmm:m=m2
    ·subst hmm;have HD2:Hid (R=if (List.zip is os).any (nR cols ocols)=true then 7 else 0):=hide (by rw[HD.out,bE];simp[HM.out,qd.out,wy.out,qc.out]);obtain ⟨W5,rfl⟩: ∃W,W=w7:=⟨_,rfl⟩;have h63:=HK.out.le;go_wp2;go_loopw [83] (λi wr=> ∃k:Nat,k<=m/\i=.int .i64 k/\(List.zip is os).any (nR cols ocols)=((List.zip is os).drop k).any (nR cols ocols)/\Below W5.heap.size W5 wr) (λi _=>m-(RowKit.intOf i).toNat)
     case atStart=>exact ⟨0,Nat.zero_le _,rfl,rfl,Below.refl _ _⟩
     case round=>
      obtain ⟨k,hk,rfl,heq,hb⟩:=hrel;have HE:=hide heq;clear heq;have HN:=hide (HN.out.below hb);have HC:=hide (HC.out.below hb);have HO:=hide (HO.out.below hb);have HK:=hide (HK.out.below hb);have xx:=hide (xx.out.below hb);obtain ⟨g0,g1,g2,g3,g4,g5,g6,g7,g8,g9,g10,g11,g12,g13,LR⟩:=dD hb LR g0 g1 g2 g3 g4 g5 g6 g7 g8 g9 g10 g11 g12 g13;have nS:=hide hb;clear hb;clear g0 g1 g2 g3 g4 g5 g6 g7 g8 g9 g10 g11 g12 g13;by_cases hlt:k<m
      ·obtain ⟨b,off,j1,vg,hBb,HX,e0,_⟩:=HK.out.int hlt
       first|(subst vg)|(injection vg with vg;injection vg with hA5 hA6;subst hA5;subst hA6)
       obtain ⟨b2,MQ,j2,rfl,LW,HY,f0,_⟩:=xx.out.int hlt;have hr1:=HR1.out (by first|rfl|trivial) j1 (mem_of_drop HX.out);have hr2:=HR2.out (by first|rfl|trivial) j2 (mem_of_drop HY.out);rw[IR.out]at hr1;rw[oP.out]at hr2;obtain ⟨i1,rfl⟩: ∃i:Nat,j1=(i:Int):=⟨j1.toNat,by omega⟩;obtain ⟨i2,rfl⟩: ∃i:Nat,j2=(i:Int):=⟨j2.toNat,by omega⟩;obtain ⟨b3,Dn,y1,hA1,LY,HZ1,_,p1,_,_⟩:=HC.out.col (k:=i1) (by omega)
       first|(subst hA1)|(injection hA1 with hA1;injection hA1 with hA7 hA8;subst hA7;subst hA8)
       obtain ⟨b4,MR,y2,rfl,L8,HZ2,_,q1,_,_⟩:=HO.out.col (k:=i2) (by omega);have DR:Hid ((List.zip is os).drop k=((i1:Int),(i2:Int)) :: (List.zip is os).drop (k+1)):=hide (by
        rw[List.zip,List.drop_zipWith,HX.out,HY.out,List.zipWith_cons_cons,List.drop_zipWith])
       have uK:Hid (nR cols ocols ((i1:Int),(i2:Int))=(y1.kind != y2.kind)):=hide (by
        rw[nR];simp only[Int.toNat_natCast];rw[dQ HZ1.out,dQ HZ2.out])
       have k0:(0:Int)<=(k:Int):=by omega
       have k1:(k:Int)<(m:Int):=by omega
       have UX:(0:Int)<=(i1:Int):=by omega
       have i11:(i1:Int)<(n1:Int):=hr1.2;have i20:(0:Int)<=(i2:Int):=by omega
       have i21:(i2:Int)<(n2:Int):=hr2.2;have jZ:=hide nS.out;have tH:=hide (aa Av.out nS.out);clear hr1 hr2 HZ1 HZ2 HX HY;obtain ⟨k3,hk3⟩: ∃q,y1.kind=q:=⟨_,rfl⟩;obtain ⟨k4,hk4⟩: ∃q,y2.kind=q:=⟨_,rfl⟩;rw[hk3]at p1 uK;rw[hk4]at q1 uK;clear hk3 hk4;go_wp2;go_quiet (fail);by_cases hq:k3=k4
       ·subst hq;have HN:Hid ((List.zip is os).any (nR cols ocols)=((List.zip is os).drop (k+1)).any (nR cols ocols)):=hide (by rw[HE.out,DR.out,List.any_cons,uK.out];simp);go_wp2;all_goals (try (exfalso;go_light;simp_all;done));go_roundw
        case rel=>exact ⟨k+1,by omega,by go_num,HN.out,below_drewN jZ.out _⟩
        case measure=>simp[RowKit.intOf];omega
       ·have hq2:(k3 != k4)=true:=by simpa using hq
        obtain rfl:R=7:=by rw[HD2.out,HE.out,DR.out,List.any_cons,uK.out,hq2];simp
        go_wp2;all_goals (try (exfalso;go_light;simp_all;done));go_ret;exact ⟨rfl,below_drewN tH.out _⟩
      ·obtain rfl:R=0:=by rw[HD2.out,HE.out,List.drop_eq_nil_of_le (by rw[List.length_zip,HM.out,qc.out];omega)];rfl
       have tH:=hide (aa Av.out nS.out);go_wp2;all_goals (try (exfalso;go_light;simp_all;done));go_ret;exact ⟨rfl,tH.out⟩
    ·have q5:((m:Int) != (m2:Int))=true:=by simp;omega
     obtain rfl:R=8:=by rw[HD.out,bE];simp[HM.out,qd.out,wy.out,qc.out,hmm]
     go_wp2;all_goals (try (exfalso;go_light;simp_all;done));go_ret;exact ⟨rfl,Av.out⟩
   ·have q4:(oe != 0)=true:=by simpa using hoe
    obtain rfl:R=oe:=by rw[HD.out,bE];simp[HM.out,qd.out,wy.out,hoe]
    go_wp2;all_goals (try (exfalso;go_light;simp_all;done));go_ret;exact ⟨rfl,Av.out⟩
  ·have q3:(CE != 0)=true:=by simpa using hce
   obtain rfl:R=CE:=by rw[HD.out,bE];simp[HM.out,qd.out,wy.out,hce]
   go_wp2;all_goals (try (exfalso;go_light;simp_all;done));go_ret;exact ⟨rfl,qi.out⟩
 ·go_enter Tryz.func134,Tryz.ntmps134;have HN:=hide hn;clear hn;have eY:=hide hn';clear hn';have HC:=hide hc;clear hc;have HO:=hide ho;clear ho;go_wp2_with fail;obtain ⟨W1,hW1⟩: ∃W,W=w.alloc (.cells #[.string x.name,.string x.table,.int .i64 x.kind,.slice A n c,.string x.other,.slice A' n' c',.int .i64 x.low,.int .i64 x.high,.slice aK n'' c'',.int .i64 x.ln,.int .i64 x.ld,.int .i64 x.mn,.int .i64 x.md,.int .i64 x.policy] 27):=⟨_,rfl⟩;obtain ⟨hbW1,gB,g0,g1,g2,g3,g4,g5,g6,g7,g8,g9,g10,g11,g12,g13⟩:=bM hW1 rfl;rw[<-hW1];clear hW1;have HN:=hide (HN.out.below hbW1);have eY:=hide (eY.out.below hbW1);have HC:=hide (HC.out.below hbW1);have HO:=hide (HO.out.below hbW1);have ma:=hide hbW1;clear hbW1;have LR:=lt_of_cell g0;go_wp2_with fail;refine (HI1.out _ (by exact HC.out) (by exact HN.out)).mono ?_;rintro e w1 ⟨⟨v,rfl,hov⟩,hb1⟩;obtain ⟨A4,c4,rfl⟩:=hov.form;obtain ⟨m,hm⟩: ∃m,is.length=m:=⟨_,rfl⟩;have zo:=ol_in hov rfl;rw[hm]at zo⊢;have HM:=hide hm;clear hov hm;have HN:=hide (HN.out.below hb1);have eY:=hide (eY.out.below hb1);have HC:=hide (HC.out.below hb1);have HO:=hide (HO.out.below hb1);obtain ⟨g0,g1,g2,g3,g4,g5,g6,g7,g8,g9,g10,g11,g12,g13,LR⟩:=dD hb1 LR g0 g1 g2 g3 g4 g5 g6 g7 g8 g9 g10 g11 g12 g13;have xU:=hide (aa ma.out hb1);clear hb1;have HK:=hide zo;clear zo;by_cases h0:ie=0;rotate_left
  ·have q0:(ie != 0)=true:=by simpa using h0
   obtain rfl:R=ie:=by rw[HD.out,bE,if_pos h0]
   go_wp2;all_goals (try (exfalso;go_light;simp_all;done));go_ret;exact ⟨rfl,xU.out⟩
  subst h0;by_cases hmz:m=0
  ·subst hmz;obtain rfl:R=8:=by rw[HD.out,bE];simp[HM.out]
   go_wp2;all_goals (try (exfalso;go_light;simp_all;done));go_ret;exact ⟨rfl,xU.out⟩
  have qz:((m:Int)==0)=false:=by simpa using hmz
  have qd:=hide hmz;go_wp2_with fail;refine (tq _ x.kind).mono ?_;rintro e w19 ⟨rfl,Ey⟩;have HN:=hide (HN.out.below Ey);have eY:=hide (eY.out.below Ey);have HC:=hide (HC.out.below Ey);have HO:=hide (HO.out.below Ey);have HK:=hide (HK.out.below Ey);obtain ⟨g0,g1,g2,g3,g4,g5,g6,g7,g8,g9,g10,g11,g12,g13,LR⟩:=dD Ey LR g0 g1 g2 g3 g4 g5 g6 g7 g8 g9 g10 g11 g12 g13;have gM:=hide (aa xU.out Ey);clear Ey;rw[HU.out];cases U
  ·obtain rfl:R=0:=by rw[HD.out,bE];simp[HM.out,qd.out]
   go_wp2;all_goals (try (exfalso;go_light;simp_all;done));go_ret;exact ⟨rfl,gM.out⟩
  go_wp2_with fail;refine (pG _ A2 n2 c2 ocols HO.out).mono ?_;rintro e Y6 ⟨rfl,jL⟩;have HN:=hide (HN.out.below jL);have eY:=hide (eY.out.below jL);have HC:=hide (HC.out.below jL);have HO:=hide (HO.out.below jL);have HK:=hide (HK.out.below jL);obtain ⟨g0,g1,g2,g3,g4,g5,g6,g7,g8,g9,g10,g11,g12,g13,LR⟩:=dD jL LR g0 g1 g2 g3 g4 g5 g6 g7 g8 g9 g10 g11 g12 g13;have mG:=hide (aa gM.out jL);clear jL;rw[Hu.out];by_cases hce:CE=0
  ·subst hce;go_wp2_with fail;refine (HI2.out _ (by exact HO.out) (by exact eY.out)).mono ?_;rintro e w7 ⟨⟨v2,rfl,nH⟩,cu⟩;obtain ⟨A5,c5,rfl⟩:=nH.form;obtain ⟨m2,hm2⟩: ∃m,os.length=m:=⟨_,rfl⟩;have zn:=ol_in nH rfl;rw[hm2]at zn⊢;have qc:=hide hm2;clear nH hm2;have HN:=hide (HN.out.below cu);have HC:=hide (HC.out.below cu);have HO:=hide (HO.out.below cu);have HK:=hide (HK.out.below cu);obtain ⟨g0,g1,g2,g3,g4,g5,g6,g7,g8,g9,g10,g11,g12,g13,LR⟩:=dD cu LR g0 g1 g2 g3 g4 g5 g6 g7 g8 g9 g10 g11 g12 g13;have kL:=hide (aa mG.out cu);clear cu;have xx:=hide zn;clear zn;by_cases hoe:oe=0
   ·subst hoe;by_cases hmm:m=m2
    ·subst hmm;have HD2:Hid (R=if (List.zip is os).any (nR cols ocols)=true then 7 else 0):=hide (by rw[HD.out,bE];simp[HM.out,qd.out,qc.out]);obtain ⟨W5,rfl⟩: ∃W,W=w7:=⟨_,rfl⟩;have h63:=HK.out.le;go_wp2;go_loopw [83] (λi wr=> ∃k:Nat,k<=m/\i=.int .i64 k/\(List.zip is os).any (nR cols ocols)=((List.zip is os).drop k).any (nR cols ocols)/\Below W5.heap.size W5 wr) (λi _=>m-(RowKit.intOf i).toNat)
     case atStart=>exact ⟨0,Nat.zero_le _,rfl,rfl,Below.refl _ _⟩
     case round=>
      obtain ⟨k,hk,rfl,heq,hb⟩:=hrel;have HE:=hide heq;clear heq;have HN:=hide (HN.out.below hb);have HC:=hide (HC.out.below hb);have HO:=hide (HO.out.below hb);have HK:=hide (HK.out.below hb);have xx:=hide (xx.out.below hb);obtain ⟨g0,g1,g2,g3,g4,g5,g6,g7,g8,g9,g10,g11,g12,g13,LR⟩:=dD hb LR g0 g1 g2 g3 g4 g5 g6 g7 g8 g9 g10 g11 g12 g13;have iA:=hide hb;clear hb;clear g0 g1 g2 g3 g4 g5 g6 g7 g8 g9 g10 g11 g12 g13;by_cases hlt:k<m
      ·obtain ⟨b,off,j1,vg,hBb,HX,e0,_⟩:=HK.out.int hlt
       first|(subst vg)|(injection vg with vg;injection vg with hA5 hA6;subst hA5;subst hA6)
       obtain ⟨b2,MQ,j2,rfl,LW,HY,f0,_⟩:=xx.out.int hlt;have hr1:=HR1.out (by first|rfl|trivial) j1 (mem_of_drop HX.out);have hr2:=HR2.out (by first|rfl|trivial) j2 (mem_of_drop HY.out);rw[IR.out]at hr1;rw[oP.out]at hr2;obtain ⟨i1,rfl⟩: ∃i:Nat,j1=(i:Int):=⟨j1.toNat,by omega⟩;obtain ⟨i2,rfl⟩: ∃i:Nat,j2=(i:Int):=⟨j2.toNat,by omega⟩;obtain ⟨b3,Dn,y1,hA1,LY,HZ1,_,p1,_,_⟩:=HC.out.col (k:=i1) (by omega)
       first|(subst hA1)|(injection hA1 with hA1;injection hA1 with hA7 hA8;subst hA7;subst hA8)
       obtain ⟨b4,MR,y2,rfl,L8,HZ2,_,q1,_,_⟩:=HO.out.col (k:=i2) (by omega);have DR:Hid ((List.zip is os).drop k=((i1:Int),(i2:Int)) :: (List.zip is os).drop (k+1)):=hide (by
        rw[List.zip,List.drop_zipWith,HX.out,HY.out,List.zipWith_cons_cons,List.drop_zipWith])
       have uK:Hid (nR cols ocols ((i1:Int),(i2:Int))=(y1.kind != y2.kind)):=hide (by
        rw[nR];simp only[Int.toNat_natCast];rw[dQ HZ1.out,dQ HZ2.out])
       have k0:(0:Int)<=(k:Int):=by omega
       have k1:(k:Int)<(m:Int):=by omega
       have UX:(0:Int)<=(i1:Int):=by omega
       have i11:(i1:Int)<(n1:Int):=hr1.2;have i20:(0:Int)<=(i2:Int):=by omega
       have i21:(i2:Int)<(n2:Int):=hr2.2;have jZ:=hide iA.out;have tH:=hide (aa kL.out iA.out);clear hr1 hr2 HZ1 HZ2 HX HY;obtain ⟨k3,hk3⟩: ∃q,y1.kind=q:=⟨_,rfl⟩;obtain ⟨k4,hk4⟩: ∃q,y2.kind=q:=⟨_,rfl⟩;rw[hk3]at p1 uK;rw[hk4]at q1 uK;clear hk3 hk4;go_wp2;go_quiet (fail);by_cases hq:k3=k4
       ·subst hq;have HN:Hid ((List.zip is os).any (nR cols ocols)=((List.zip is os).drop (k+1)).any (nR cols ocols)):=hide (by rw[HE.out,DR.out,List.any_cons,uK.out];simp);go_wp2;all_goals (try (exfalso;go_light;simp_all;done));go_roundw
        case rel=>exact ⟨k+1,by omega,by go_num,HN.out,below_drewN jZ.out _⟩
        case measure=>simp[RowKit.intOf];omega
       ·have hq2:(k3 != k4)=true:=by simpa using hq
        obtain rfl:R=7:=by rw[HD2.out,HE.out,DR.out,List.any_cons,uK.out,hq2];simp
        go_wp2;all_goals (try (exfalso;go_light;simp_all;done));go_ret;exact ⟨rfl,below_drewN tH.out _⟩
      ·obtain rfl:R=0:=by rw[HD2.out,HE.out,List.drop_eq_nil_of_le (by rw[List.length_zip,HM.out,qc.out];omega)];rfl
       have tH:=hide (aa kL.out iA.out);go_wp2;all_goals (try (exfalso;go_light;simp_all;done));go_ret;exact ⟨rfl,tH.out⟩
    ·have q5:((m:Int) != (m2:Int))=true:=by simp;omega
     obtain rfl:R=8:=by rw[HD.out,bE];simp[HM.out,qd.out,qc.out,hmm]
     go_wp2;all_goals (try (exfalso;go_light;simp_all;done));go_ret;exact ⟨rfl,kL.out⟩
   ·have q4:(oe != 0)=true:=by simpa using hoe
    obtain rfl:R=oe:=by rw[HD.out,bE];simp[HM.out,qd.out,hoe]
    go_wp2;all_goals (try (exfalso;go_light;simp_all;done));go_ret;exact ⟨rfl,kL.out⟩
  ·have q3:(CE != 0)=true:=by simpa using hce
   obtain rfl:R=CE:=by rw[HD.out,bE];simp[HM.out,qd.out,hce]
   go_wp2;all_goals (try (exfalso;go_light;simp_all;done));go_ret;exact ⟨rfl,mG.out⟩
end Go.Proofs.YtggejcekmehocaaGreatDoor
