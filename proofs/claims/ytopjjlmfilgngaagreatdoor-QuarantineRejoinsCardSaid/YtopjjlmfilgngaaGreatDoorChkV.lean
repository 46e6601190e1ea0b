/-
  check.checkColumns.
-/
import Derived.Test.YtopjjlmfilgngaaGreatDoorGau
namespace Go.Proofs.YtopjjlmfilgngaaGreatDoor
set_option maxHeartbeats 4000000
set_option maxRecDepth 100000
open Go.RowKit
set_option linter.unusedSimpArgs false
set_option linter.unusedVariables false
def uO (cols ocols:List Col)(p:Int×Int):Bool:=(cols.getD p.1.toNat default).kind != (ocols.getD p.2.toNat default).kind
def dF (sg U:Bool)(ie:Int)(is:List Int)(k0 ce oe:Int)(os:List Int)(df:Bool):Int:=
 if ie≠0 then ie else if is.length=0\/(sg=true/\1<is.length) then 8 else if sg=true/\k0≠2 then 7 else if U=false then 0
 else if ce≠0 then ce else if oe≠0 then oe else if is.length≠os.length then 8 else if df=true then 7 else 0
theorem AJ (c:Chk)(cols ocols:List Col):iN c cols ocols=
  dF (c.kind==2 || c.kind==6) (fG c.kind) (aW cols c.cols).1 (aW cols c.cols).2 (cols.getD ((aW cols c.cols).2.getD 0 0).toNat default).kind (aC ocols) (aW ocols c.ocols).1 (aW ocols c.ocols).2 ((List.zip (aW cols c.cols).2 (aW ocols c.ocols).2).any (uO cols ocols)):=by
 simp only[iN,dF,Bool.or_eq_true,beq_iff_eq];rfl
theorem zg {cols:List Col}{names:List ByteArray}(h:(aW cols names).1=0): ∀y∈(aW cols names).2,0<=y/\y<(cols.length:Int):=λy hy=>by
 obtain ⟨h1,h2,_⟩:=pI h;rw[h1]at hy;obtain ⟨s,hs,rfl⟩:=List.mem_map.1 hy;exact h2 s hs
theorem iD {α:Type}{xs:List α}{k:Nat}{x d:α}{l:List α}(h:xs.drop k=x :: l):xs.getD k d=x:=by
 rw[List.getD_eq_getElem?_getD,(bE h).1];rfl
theorem qo (w:World)(x:Chk)(A:Option Addr)(n c:Nat)(hn:In w A n c x.cols)(A':Option Addr)(n' c':Nat)(hn':In w A' n' c' x.ocols)(bX:Option Addr)(n'' c'':Nat)(A1:Option Addr)(n1 c1:Nat)(cols:List Col)(hc:In w A1 n1 c1 cols)(A2:Option Addr)(n2 c2:Nat)(ocols:List Col)(ho:In w A2 n2 c2 ocols)(hb0:n<=4096)(hb1:n'<=4096)(hb2:n1<=4096)(hb3:n2<=4096):
  Calls Tryz.prog 145 #[.agg (aR x A n c A' n' c' bX n'' c'').toArray,.slice A1 n1 c1,.slice A2 n2 c2] w λe w'=>e=.returned (.int .i64 (iN x cols ocols))/\Below w.heap.size w w':=by
 have HD:=hide (AJ x cols ocols);have HI1:=hide λW hx hy=>ma W A1 n1 c1 cols hx A n c x.cols hy (by omega) (by omega);have HI2:=hide λW hx hy=>ma W A2 n2 c2 ocols hx A' n' c' x.ocols hy (by omega) (by omega);have HR1:=hide (λh=>zg (cols:=cols) (names:=x.cols) h);have HR2:=hide (λh=>zg (cols:=ocols) (names:=x.ocols) h);have M5:=hide (Nat.le_trans (tJ cols x.cols) (by rw[hn.len];exact hb0));have M6:=hide (Nat.le_trans (tJ ocols x.ocols) (by rw[hn'.len];exact hb1));have JO:=hide hc.len;have BP:=hide ho.len;obtain ⟨R,hR⟩: ∃R,iN x cols ocols=R:=⟨_,rfl⟩;obtain ⟨I1,hI1⟩: ∃I,aW cols x.cols=I:=⟨_,rfl⟩;obtain ⟨I2,hI2⟩: ∃I,aW ocols x.ocols=I:=⟨_,rfl⟩;obtain ⟨U,hU⟩: ∃U,fG x.kind=U:=⟨_,rfl⟩;rw[hR,hI1,hI2,hU]at HD;rw[hI1]at HI1 HR1 M5;rw[hI2]at HI2 HR2 M6;rw[hR];have HU:=hide hU;clear hR hI1 hI2 hU;obtain ⟨ie,is⟩:=I1;obtain ⟨oe,os⟩:=I2;simp only at HD HI1 HI2 HR1 HR2 M5 M6;obtain ⟨K0,Ri⟩: ∃K,(cols.getD (is.getD 0 0).toNat default).kind=K:=⟨_,rfl⟩;rw[Ri]at HD;have Qn:=hide Ri;clear Ri;obtain ⟨CE,Lv⟩: ∃CE,aC ocols=CE:=⟨_,rfl⟩;rw[Lv]at HD;have GH:=hide Lv;obtain ⟨sg,hsg⟩: ∃s,(x.kind==2 || x.kind==6)=s:=⟨_,rfl⟩;rw[hsg]at HD;clear Lv;have hk:((x.kind==2)=true/\sg=true)\/((x.kind==2)=false/\(x.kind==6)=true/\sg=true)\/((x.kind==2)=false/\(x.kind==6)=false/\sg=false):=by
  cases h1:(x.kind==2) <;> cases h2:(x.kind==6) <;> simp[h1,h2]at hsg <;> simp[hsg]
 clear hsg;simp only[aR];rcases hk with ⟨h2,rfl⟩|⟨h2,h6,rfl⟩|⟨h2,h6,rfl⟩
 ·go_enter Tryz.func145,Tryz.ntmps145;have HN:=hide hn;clear hn;have gF:=hide hn';clear hn';have HC:=hide hc;clear hc;have HO:=hide ho;clear ho;go_wp2_with fail;obtain ⟨W1,hW1⟩: ∃W,W=w.alloc (.cells #[.string x.name,.string x.table,.int .i64 x.kind,.slice A n c,.string x.other,.slice A' n' c',.int .i64 x.low,.int .i64 x.high,.slice bX n'' c'',.int .i64 x.ln,.int .i64 x.ld,.int .i64 x.mn,.int .i64 x.md,.int .i64 x.policy] 48):=⟨_,rfl⟩;obtain ⟨hbW1,gZ,g0,g1,g2,g3,g4,g5,g6,g7,g8,g9,g10,g11,g12,g13⟩:=dn hW1 rfl;rw[<-hW1];clear hW1;have HN:=hide (HN.out.below hbW1);have gF:=hide (gF.out.below hbW1);have HC:=hide (HC.out.below hbW1);have HO:=hide (HO.out.below hbW1);have lI:=hide hbW1;clear hbW1;have LR:=lt_of_cell g0;go_wp2_with fail;refine (HI1.out _ (by exact HC.out) (by exact HN.out)).mono ?_;rintro e w1 ⟨⟨v,rfl,hov⟩,hb1⟩;obtain ⟨A4,c4,rfl⟩:=hov.form;obtain ⟨m,hm⟩: ∃m,is.length=m:=⟨_,rfl⟩;have y9:=iK hov rfl;rw[hm]at y9⊢;have HM:=hide hm;clear hov hm;have HN:=hide (HN.out.below hb1);have gF:=hide (gF.out.below hb1);have HC:=hide (HC.out.below hb1);have HO:=hide (HO.out.below hb1);obtain ⟨g0,g1,g2,g3,g4,g5,g6,g7,g8,g9,g10,g11,g12,g13,LR⟩:=fq hb1 LR g0 g1 g2 g3 g4 g5 g6 g7 g8 g9 g10 g11 g12 g13;have jv:=hide (aa lI.out hb1);clear hb1;have HK:=hide y9;clear y9;by_cases h0:ie=0;rotate_left
  ·have q0:(ie != 0)=true:=by simpa using h0
   obtain rfl:R=ie:=by rw[HD.out,dF,if_pos h0]
   go_wp2;all_goals (try (exfalso;go_light;simp_all;done));go_ret;exact ⟨rfl,jv.out⟩
  subst h0;by_cases hmz:m=0
  ·subst hmz;obtain rfl:R=8:=by rw[HD.out,dF];simp[HM.out]
   go_wp2;all_goals (try (exfalso;go_light;simp_all;done));go_ret;exact ⟨rfl,jv.out⟩
  have qz:((m:Int)==0)=false:=by simpa using hmz
  have wL:=hide hmz;by_cases hm1:1<m
  ·have q1:decide (1<(m:Int))=true:=by simp;omega
   obtain rfl:R=8:=by rw[HD.out,dF];simp[HM.out,hm1]
   go_wp2;all_goals (try (exfalso;go_light;simp_all;done));go_ret;exact ⟨rfl,jv.out⟩
  have q1:decide (1<(m:Int))=false:=by simp;omega
  have Cz:=hide hm1;obtain ⟨b0,o0,j0,rfl,Rb,HX0,e0,_⟩:=HK.out.int (k:=0) (by omega);rw[Nat.add_zero]at e0;have hr0:=HR1.out (by first|rfl|trivial) j0 (aF HX0.out);rw[JO.out]at hr0;obtain ⟨i0,rfl⟩: ∃i:Nat,j0=(i:Int):=⟨j0.toNat,by omega⟩;obtain ⟨bc,oc,y0,rfl,Rc,HZ0,_,p0,_,_⟩:=HC.out.col (k:=i0) (by omega);have VM:(0:Int)<=(i0:Int):=by omega
  have VN:(i0:Int)<(n1:Int):=hr0.2;have Wn:(0:Int)<(m:Int):=by omega
  obtain ⟨k5,hk5⟩: ∃q,y0.kind=q:=⟨_,rfl⟩;have e5:K0=k5:=by
   rw[<-Qn.out,iD HX0.out,<-hk5];simp only[Int.toNat_natCast];rw[iD HZ0.out]
  rw[hk5]at p0;subst e5;clear hk5 hr0 HX0 HZ0;by_cases hk2:K0=2;rotate_left
  ·have q2:(K0 != 2)=true:=by simpa using hk2
   obtain rfl:R=7:=by rw[HD.out,dF];simp[HM.out,wL.out,Cz.out,hk2]
   go_wp2;all_goals (try (exfalso;go_light;simp_all;done));go_ret;exact ⟨rfl,jv.out⟩
  subst hk2;have q2:((2:Int) != 2)=false:=by decide
  go_wp2_with fail;refine (mZ _ x.kind).mono ?_;rintro e w3 ⟨rfl,hb3⟩;have HN:=hide (HN.out.below hb3);have gF:=hide (gF.out.below hb3);have HC:=hide (HC.out.below hb3);have HO:=hide (HO.out.below hb3);have HK:=hide (HK.out.below hb3);obtain ⟨g0,g1,g2,g3,g4,g5,g6,g7,g8,g9,g10,g11,g12,g13,LR⟩:=fq hb3 LR g0 g1 g2 g3 g4 g5 g6 g7 g8 g9 g10 g11 g12 g13;have ED:=hide (aa jv.out hb3);clear hb3;rw[HU.out];cases U
  ·obtain rfl:R=0:=by rw[HD.out,dF];simp[HM.out,wL.out,Cz.out]
   go_wp2;all_goals (try (exfalso;go_light;simp_all;done));go_ret;exact ⟨rfl,ED.out⟩
  go_wp2_with fail;refine (jW _ A2 n2 c2 ocols HO.out).mono ?_;rintro e w5 ⟨rfl,hb5⟩;have HN:=hide (HN.out.below hb5);have gF:=hide (gF.out.below hb5);have HC:=hide (HC.out.below hb5);have HO:=hide (HO.out.below hb5);have HK:=hide (HK.out.below hb5);obtain ⟨g0,g1,g2,g3,g4,g5,g6,g7,g8,g9,g10,g11,g12,g13,LR⟩:=fq hb5 LR g0 g1 g2 g3 g4 g5 g6 g7 g8 g9 g10 g11 g12 g13;have BU:=hide (aa ED.out hb5);clear hb5;rw[GH.out];by_cases hce:CE=0
  ·subst hce;go_wp2_with fail;refine (HI2.out _ (by exact HO.out) (by exact gF.out)).mono ?_;rintro e w7 ⟨⟨v2,rfl,tu⟩,j5⟩;obtain ⟨A5,c5,rfl⟩:=tu.form;obtain ⟨m2,hm2⟩: ∃m,os.length=m:=⟨_,rfl⟩;have FN:=iK tu rfl;rw[hm2]at FN⊢;have zS:=hide hm2;clear tu hm2;have HN:=hide (HN.out.below j5);have HC:=hide (HC.out.below j5);have HO:=hide (HO.out.below j5);have HK:=hide (HK.out.below j5);obtain ⟨g0,g1,g2,g3,g4,g5,g6,g7,g8,g9,g10,g11,g12,g13,LR⟩:=fq j5 LR g0 g1 g2 g3 g4 g5 g6 g7 g8 g9 g10 g11 g12 g13;have lJ:=hide (aa BU.out j5);clear j5;have zR:=hide FN;clear FN;by_cases hoe:oe=0
   ·subst hoe;by_cases hmm:m=m2
    ·subst hmm;have HD2:Hid (R=if (List.zip is os).any (uO cols ocols)=true then 7 else 0):=hide (by rw[HD.out,dF];simp[HM.out,wL.out,Cz.out,zS.out]);obtain ⟨W5,rfl⟩: ∃W,W=w7:=⟨_,rfl⟩;have h63:=HK.out.le;go_wp2;go_loopw [83] (λi wr=> ∃k:Nat,k<=m/\i=.int .i64 k/\(List.zip is os).any (uO cols ocols)=((List.zip is os).drop k).any (uO cols ocols)/\Below W5.heap.size W5 wr) (λi _=>m-(RowKit.intOf i).toNat)
     case atStart=>exact ⟨0,Nat.zero_le _,rfl,rfl,Below.refl _ _⟩
     case round=>
      obtain ⟨k,hk,rfl,heq,hb⟩:=hrel;have HE:=hide heq;clear heq;have HN:=hide (HN.out.below hb);have HC:=hide (HC.out.below hb);have HO:=hide (HO.out.below hb);have HK:=hide (HK.out.below hb);have zR:=hide (zR.out.below hb);obtain ⟨g0,g1,g2,g3,g4,g5,g6,g7,g8,g9,g10,g11,g12,g13,LR⟩:=fq hb LR g0 g1 g2 g3 g4 g5 g6 g7 g8 g9 g10 g11 g12 g13;have xK:=hide hb;clear hb;clear g0 g1 g2 g3 g4 g5 g6 g7 g8 g9 g10 g11 g12 g13;by_cases hlt:k<m
      ·obtain ⟨b,off,j1,Cm,hBb,HX,e0,_⟩:=HK.out.int hlt
       first|(subst Cm)|(injection Cm with Cm;injection Cm with hA5 hA6;subst hA5;subst hA6)
       obtain ⟨b2,OZ,j2,rfl,N9,HY,f0,_⟩:=zR.out.int hlt;have hr1:=HR1.out (by first|rfl|trivial) j1 (aF HX.out);have hr2:=HR2.out (by first|rfl|trivial) j2 (aF HY.out);rw[JO.out]at hr1;rw[BP.out]at hr2;obtain ⟨i1,rfl⟩: ∃i:Nat,j1=(i:Int):=⟨j1.toNat,by omega⟩;obtain ⟨i2,rfl⟩: ∃i:Nat,j2=(i:Int):=⟨j2.toNat,by omega⟩;obtain ⟨b3,JF,y1,hA1,Oa,HZ1,_,p1,_,_⟩:=HC.out.col (k:=i1) (by omega)
       first|(subst hA1)|(injection hA1 with hA1;injection hA1 with hA7 hA8;subst hA7;subst hA8)
       obtain ⟨b4,O0,y2,rfl,Ob,HZ2,_,q1,_,_⟩:=HO.out.col (k:=i2) (by omega);have Ej:Hid ((List.zip is os).drop k=((i1:Int),(i2:Int)) :: (List.zip is os).drop (k+1)):=hide (by
        rw[List.zip,List.drop_zipWith,HX.out,HY.out,List.zipWith_cons_cons,List.drop_zipWith])
       have oN:Hid (uO cols ocols ((i1:Int),(i2:Int))=(y1.kind != y2.kind)):=hide (by
        rw[uO];simp only[Int.toNat_natCast];rw[iD HZ1.out,iD HZ2.out])
       have k0:(0:Int)<=(k:Int):=by omega
       have k1:(k:Int)<(m:Int):=by omega
       have TR:(0:Int)<=(i1:Int):=by omega
       have i11:(i1:Int)<(n1:Int):=hr1.2;have i20:(0:Int)<=(i2:Int):=by omega
       have i21:(i2:Int)<(n2:Int):=hr2.2;have jr:=hide xK.out;have oM:=hide (aa lJ.out xK.out);clear hr1 hr2 HZ1 HZ2 HX HY;obtain ⟨k3,hk3⟩: ∃q,y1.kind=q:=⟨_,rfl⟩;obtain ⟨k4,hk4⟩: ∃q,y2.kind=q:=⟨_,rfl⟩;rw[hk3]at p1 oN;rw[hk4]at q1 oN;clear hk3 hk4;go_wp2;go_quiet (fail);by_cases hq:k3=k4
       ·subst hq;have HN:Hid ((List.zip is os).any (uO cols ocols)=((List.zip is os).drop (k+1)).any (uO cols ocols)):=hide (by rw[HE.out,Ej.out,List.any_cons,oN.out];simp);go_wp2;all_goals (try (exfalso;go_light;simp_all;done));go_roundw
        case rel=>exact ⟨k+1,by omega,by go_num,HN.out,below_drewN jr.out _⟩
        case measure=>simp[RowKit.intOf];omega
       ·have hq2:(k3 != k4)=true:=by simpa using hq
        obtain rfl:R=7:=by rw[HD2.out,HE.out,Ej.out,List.any_cons,oN.out,hq2];simp
        go_wp2;all_goals (try (exfalso;go_light;simp_all;done));go_ret;exact ⟨rfl,below_drewN oM.out _⟩
      ·obtain rfl:R=0:=by rw[HD2.out,HE.out,List.drop_eq_nil_of_le (by rw[List.length_zip,HM.out,zS.out];omega)];rfl
       have oM:=hide (aa lJ.out xK.out);go_wp2;all_goals (try (exfalso;go_light;simp_all;done));go_ret;exact ⟨rfl,oM.out⟩
    ·have q5:((m:Int) != (m2:Int))=true:=by simp;omega
     obtain rfl:R=8:=by rw[HD.out,dF];simp[HM.out,wL.out,Cz.out,zS.out,hmm]
     go_wp2;all_goals (try (exfalso;go_light;simp_all;done));go_ret;exact ⟨rfl,lJ.out⟩
   ·have q4:(oe != 0)=true:=by simpa using hoe
    obtain rfl:R=oe:=by rw[HD.out,dF];simp[HM.out,wL.out,Cz.out,hoe]
    go_wp2;all_goals (try (exfalso;go_light;simp_all;done));go_ret;exact ⟨rfl,lJ.out⟩
  ·have q3:(CE != 0)=true:=by simpa using hce
   obtain rfl:R=CE:=by rw[HD.out,dF];simp[HM.out,wL.out,Cz.out,hce]
   go_wp2;all_goals (try (exfalso;go_light;simp_all;done));go_ret;exact ⟨rfl,BU.out⟩
 ·go_enter Tryz.func145,Tryz.ntmps145;have HN:=hide hn;clear hn;have gF:=hide hn';clear hn';have HC:=hide hc;clear hc;have HO:=hide ho;clear ho;go_wp2_with fail;obtain ⟨W1,hW1⟩: ∃W,W=w.alloc (.cells #[.string x.name,.string x.table,.int .i64 x.kind,.slice A n c,.string x.other,.slice A' n' c',.int .i64 x.low,.int .i64 x.high,.slice bX n'' c'',.int .i64 x.ln,.int .i64 x.ld,.int .i64 x.mn,.int .i64 x.md,.int .i64 x.policy] 48):=⟨_,rfl⟩;obtain ⟨hbW1,gZ,g0,g1,g2,g3,g4,g5,g6,g7,g8,g9,g10,g11,g12,g13⟩:=dn hW1 rfl;rw[<-hW1];clear hW1;have HN:=hide (HN.out.below hbW1);have gF:=hide (gF.out.below hbW1);have HC:=hide (HC.out.below hbW1);have HO:=hide (HO.out.below hbW1);have Pz:=hide hbW1;clear hbW1;have LR:=lt_of_cell g0;go_wp2_with fail;refine (HI1.out _ (by exact HC.out) (by exact HN.out)).mono ?_;rintro e w1 ⟨⟨v,rfl,hov⟩,hb1⟩;obtain ⟨A4,c4,rfl⟩:=hov.form;obtain ⟨m,hm⟩: ∃m,is.length=m:=⟨_,rfl⟩;have y9:=iK hov rfl;rw[hm]at y9⊢;have HM:=hide hm;clear hov hm;have HN:=hide (HN.out.below hb1);have gF:=hide (gF.out.below hb1);have HC:=hide (HC.out.below hb1);have HO:=hide (HO.out.below hb1);obtain ⟨g0,g1,g2,g3,g4,g5,g6,g7,g8,g9,g10,g11,g12,g13,LR⟩:=fq hb1 LR g0 g1 g2 g3 g4 g5 g6 g7 g8 g9 g10 g11 g12 g13;have dC:=hide (aa Pz.out hb1);clear hb1;have HK:=hide y9;clear y9;by_cases h0:ie=0;rotate_left
  ·have q0:(ie != 0)=true:=by simpa using h0
   obtain rfl:R=ie:=by rw[HD.out,dF,if_pos h0]
   go_wp2;all_goals (try (exfalso;go_light;simp_all;done));go_ret;exact ⟨rfl,dC.out⟩
  subst h0;by_cases hmz:m=0
  ·subst hmz;obtain rfl:R=8:=by rw[HD.out,dF];simp[HM.out]
   go_wp2;all_goals (try (exfalso;go_light;simp_all;done));go_ret;exact ⟨rfl,dC.out⟩
  have qz:((m:Int)==0)=false:=by simpa using hmz
  have wL:=hide hmz;by_cases hm1:1<m
  ·have q1:decide (1<(m:Int))=true:=by simp;omega
   obtain rfl:R=8:=by rw[HD.out,dF];simp[HM.out,hm1]
   go_wp2;all_goals (try (exfalso;go_light;simp_all;done));go_ret;exact ⟨rfl,dC.out⟩
  have q1:decide (1<(m:Int))=false:=by simp;omega
  have Cz:=hide hm1;obtain ⟨b0,o0,j0,rfl,Rb,HX0,e0,_⟩:=HK.out.int (k:=0) (by omega);rw[Nat.add_zero]at e0;have hr0:=HR1.out (by first|rfl|trivial) j0 (aF HX0.out);rw[JO.out]at hr0;obtain ⟨i0,rfl⟩: ∃i:Nat,j0=(i:Int):=⟨j0.toNat,by omega⟩;obtain ⟨bc,oc,y0,rfl,Rc,HZ0,_,p0,_,_⟩:=HC.out.col (k:=i0) (by omega);have VM:(0:Int)<=(i0:Int):=by omega
  have VN:(i0:Int)<(n1:Int):=hr0.2;have Wn:(0:Int)<(m:Int):=by omega
  obtain ⟨k5,hk5⟩: ∃q,y0.kind=q:=⟨_,rfl⟩;have e5:K0=k5:=by
   rw[<-Qn.out,iD HX0.out,<-hk5];simp only[Int.toNat_natCast];rw[iD HZ0.out]
  rw[hk5]at p0;subst e5;clear hk5 hr0 HX0 HZ0;by_cases hk2:K0=2;rotate_left
  ·have q2:(K0 != 2)=true:=by simpa using hk2
   obtain rfl:R=7:=by rw[HD.out,dF];simp[HM.out,wL.out,Cz.out,hk2]
   go_wp2;all_goals (try (exfalso;go_light;simp_all;done));go_ret;exact ⟨rfl,dC.out⟩
  subst hk2;have q2:((2:Int) != 2)=false:=by decide
  go_wp2_with fail;refine (mZ _ x.kind).mono ?_;rintro e TV ⟨rfl,og⟩;have HN:=hide (HN.out.below og);have gF:=hide (gF.out.below og);have HC:=hide (HC.out.below og);have HO:=hide (HO.out.below og);have HK:=hide (HK.out.below og);obtain ⟨g0,g1,g2,g3,g4,g5,g6,g7,g8,g9,g10,g11,g12,g13,LR⟩:=fq og LR g0 g1 g2 g3 g4 g5 g6 g7 g8 g9 g10 g11 g12 g13;have jU:=hide (aa dC.out og);clear og;rw[HU.out];cases U
  ·obtain rfl:R=0:=by rw[HD.out,dF];simp[HM.out,wL.out,Cz.out]
   go_wp2;all_goals (try (exfalso;go_light;simp_all;done));go_ret;exact ⟨rfl,jU.out⟩
  go_wp2_with fail;refine (jW _ A2 n2 c2 ocols HO.out).mono ?_;rintro e TW ⟨rfl,oh⟩;have HN:=hide (HN.out.below oh);have gF:=hide (gF.out.below oh);have HC:=hide (HC.out.below oh);have HO:=hide (HO.out.below oh);have HK:=hide (HK.out.below oh);obtain ⟨g0,g1,g2,g3,g4,g5,g6,g7,g8,g9,g10,g11,g12,g13,LR⟩:=fq oh LR g0 g1 g2 g3 g4 g5 g6 g7 g8 g9 g10 g11 g12 g13;have Ae:=hide (aa jU.out oh);clear oh;rw[GH.out];by_cases hce:CE=0
  ·subst hce;go_wp2_with fail;refine (HI2.out _ (by exact HO.out) (by exact gF.out)).mono ?_;rintro e w7 ⟨⟨v2,rfl,tu⟩,j5⟩;obtain ⟨A5,c5,rfl⟩:=tu.form;obtain ⟨m2,hm2⟩: ∃m,os.length=m:=⟨_,rfl⟩;have FN:=iK tu rfl;rw[hm2]at FN⊢;have zS:=hide hm2;clear tu hm2;have HN:=hide (HN.out.below j5);have HC:=hide (HC.out.below j5);have HO:=hide (HO.out.below j5);have HK:=hide (HK.out.below j5);obtain ⟨g0,g1,g2,g3,g4,g5,g6,g7,g8,g9,g10,g11,g12,g13,LR⟩:=fq j5 LR g0 g1 g2 g3 g4 g5 g6 g7 g8 g9 g10 g11 g12 g13;have nC:=hide (aa Ae.out j5);clear j5;have zR:=hide FN;clear FN;by_cases hoe:oe=0
   ·subst hoe;by_cases hmm:m=m2
    ·subst hmm;have HD2:Hid (R=if (List.zip is os).any (uO cols ocols)=true then 7 else 0):=hide (by rw[HD.out,dF];simp[HM.out,wL.out,Cz.out,zS.out]);obtain ⟨W5,rfl⟩: ∃W,W=w7:=⟨_,rfl⟩;have h63:=HK.out.le;go_wp2;go_loopw [83] (λi wr=> ∃k:Nat,k<=m/\i=.int .i64 k/\(List.zip is os).any (uO cols ocols)=((List.zip is os).drop k).any (uO cols ocols)/\Below W5.heap.size W5 wr) (λi _=>m-(RowKit.intOf i).toNat)
     case atStart=>exact ⟨0,Nat.zero_le _,rfl,rfl,Below.refl _ _⟩
     case round=>
      obtain ⟨k,hk,rfl,heq,hb⟩:=hrel;have HE:=hide heq;clear heq;have HN:=hide (HN.out.below hb);have HC:=hide (HC.out.below hb);have HO:=hide (HO.out.below hb);have HK:=hide (HK.out.below hb);have zR:=hide (zR.out.below hb);obtain ⟨g0,g1,g2,g3,g4,g5,g6,g7,g8,g9,g10,g11,g12,g13,LR⟩:=fq hb LR g0 g1 g2 g3 g4 g5 g6 g7 g8 g9 g10 g11 g12 g13;have oQ:=hide hb;clear hb;clear g0 g1 g2 g3 g4 g5 g6 g7 g8 g9 g10 g11 g12 g13;by_cases hlt:k<m
      ·obtain ⟨b,off,j1,Cm,hBb,HX,e0,_⟩:=HK.out.int hlt
       first|(subst Cm)|(injection Cm with Cm;injection Cm with hA5 hA6;subst hA5;subst hA6)
       obtain ⟨b2,OZ,j2,rfl,N9,HY,f0,_⟩:=zR.out.int hlt;have hr1:=HR1.out (by first|rfl|trivial) j1 (aF HX.out);have hr2:=HR2.out (by first|rfl|trivial) j2 (aF HY.out);rw[JO.out]at hr1;rw[BP.out]at hr2;obtain ⟨i1,rfl⟩: ∃i:Nat,j1=(i:Int):=⟨j1.toNat,by omega⟩;obtain ⟨i2,rfl⟩: ∃i:Nat,j2=(i:Int):=⟨j2.toNat,by omega⟩;obtain ⟨b3,JF,y1,hA1,Oa,HZ1,_,p1,_,_⟩:=HC.out.col (k:=i1) (by omega)
       first|(subst hA1)|(injection hA1 with hA1;injection hA1 with hA7 hA8;subst hA7;subst hA8)
       obtain ⟨b4,O0,y2,rfl,Ob,HZ2,_,q1,_,_⟩:=HO.out.col (k:=i2) (by omega);have Ej:Hid ((List.zip is os).drop k=((i1:Int),(i2:Int)) :: (List.zip is os).drop (k+1)):=hide (by
        rw[List.zip,List.drop_zipWith,HX.out,HY.out,List.zipWith_cons_cons,List.drop_zipWith])
       have oN:Hid (uO cols ocols ((i1:Int),(i2:Int))=(y1.kind != y2.kind)):=hide (by
        rw[uO];simp only[Int.toNat_natCast];rw[iD HZ1.out,iD HZ2.out])
       have k0:(0:Int)<=(k:Int):=by omega
       have k1:(k:Int)<(m:Int):=by omega
       have TR:(0:Int)<=(i1:Int):=by omega
       have i11:(i1:Int)<(n1:Int):=hr1.2;have i20:(0:Int)<=(i2:Int):=by omega
       have i21:(i2:Int)<(n2:Int):=hr2.2;have jr:=hide oQ.out;have oM:=hide (aa nC.out oQ.out);clear hr1 hr2 HZ1 HZ2 HX HY;obtain ⟨k3,hk3⟩: ∃q,y1.kind=q:=⟨_,rfl⟩;obtain ⟨k4,hk4⟩: ∃q,y2.kind=q:=⟨_,rfl⟩;rw[hk3]at p1 oN;rw[hk4]at q1 oN;clear hk3 hk4;go_wp2;go_quiet (fail);by_cases hq:k3=k4
       ·subst hq;have HN:Hid ((List.zip is os).any (uO cols ocols)=((List.zip is os).drop (k+1)).any (uO cols ocols)):=hide (by rw[HE.out,Ej.out,List.any_cons,oN.out];simp);go_wp2;all_goals (try (exfalso;go_light;simp_all;done));go_roundw
        case rel=>exact ⟨k+1,by omega,by go_num,HN.out,below_drewN jr.out _⟩
        case measure=>simp[RowKit.intOf];omega
       ·have hq2:(k3 != k4)=true:=by simpa using hq
        obtain rfl:R=7:=by rw[HD2.out,HE.out,Ej.out,List.any_cons,oN.out,hq2];simp
        go_wp2;all_goals (try (exfalso;go_light;simp_all;done));go_ret;exact ⟨rfl,below_drewN oM.out _⟩
      ·obtain rfl:R=0:=by rw[HD2.out,HE.out,List.drop_eq_nil_of_le (by rw[List.length_zip,HM.out,zS.out];omega)];rfl
       have oM:=hide (aa nC.out oQ.out);go_wp2;all_goals (try (exfalso;go_light;simp_all;done));go_ret;exact ⟨rfl,oM.out⟩
    ·have q5:((m:Int) != (m2:Int))=true:=by simp;omega
     obtain rfl:R=8:=by rw[HD.out,dF];simp[HM.out,wL.out,Cz.out,zS.out,hmm]
     go_wp2;all_goals (try (exfalso;go_light;simp_all;done));go_ret;exact ⟨rfl,nC.out⟩
   ·have q4:(oe != 0)=true:=by simpa using hoe
    obtain rfl:R=oe:=by rw[HD.out,dF];simp[HM.out,wL.out,Cz.out,hoe]
    go_wp2;all_goals (try (exfalso;go_light;simp_all;done));go_ret;exact ⟨rfl,nC.out⟩
  ·have q3:(CE != 0)=true:=by simpa using hce
   obtain rfl:R=CE:=by rw[HD.out,dF];simp[HM.out,wL.out,Cz.out,hce]
   go_wp2;all_goals (try (exfalso;go_light;simp_all;done));go_ret;exact ⟨rfl,Ae.out⟩
 ·go_enter Tryz.func145,Tryz.ntmps145;have HN:=hide hn;clear hn;have gF:=hide hn';clear hn';have HC:=hide hc;clear hc;have HO:=hide ho;clear ho;go_wp2_with fail;obtain ⟨W1,hW1⟩: ∃W,W=w.alloc (.cells #[.string x.name,.string x.table,.int .i64 x.kind,.slice A n c,.string x.other,.slice A' n' c',.int .i64 x.low,.int .i64 x.high,.slice bX n'' c'',.int .i64 x.ln,.int .i64 x.ld,.int .i64 x.mn,.int .i64 x.md,.int .i64 x.policy] 48):=⟨_,rfl⟩;obtain ⟨hbW1,gZ,g0,g1,g2,g3,g4,g5,g6,g7,g8,g9,g10,g11,g12,g13⟩:=dn hW1 rfl;rw[<-hW1];clear hW1;have HN:=hide (HN.out.below hbW1);have gF:=hide (gF.out.below hbW1);have HC:=hide (HC.out.below hbW1);have HO:=hide (HO.out.below hbW1);have lL:=hide hbW1;clear hbW1;have LR:=lt_of_cell g0;go_wp2_with fail;refine (HI1.out _ (by exact HC.out) (by exact HN.out)).mono ?_;rintro e w1 ⟨⟨v,rfl,hov⟩,hb1⟩;obtain ⟨A4,c4,rfl⟩:=hov.form;obtain ⟨m,hm⟩: ∃m,is.length=m:=⟨_,rfl⟩;have y9:=iK hov rfl;rw[hm]at y9⊢;have HM:=hide hm;clear hov hm;have HN:=hide (HN.out.below hb1);have gF:=hide (gF.out.below hb1);have HC:=hide (HC.out.below hb1);have HO:=hide (HO.out.below hb1);obtain ⟨g0,g1,g2,g3,g4,g5,g6,g7,g8,g9,g10,g11,g12,g13,LR⟩:=fq hb1 LR g0 g1 g2 g3 g4 g5 g6 g7 g8 g9 g10 g11 g12 g13;have yc:=hide (aa lL.out hb1);clear hb1;have HK:=hide y9;clear y9;by_cases h0:ie=0;rotate_left
  ·have q0:(ie != 0)=true:=by simpa using h0
   obtain rfl:R=ie:=by rw[HD.out,dF,if_pos h0]
   go_wp2;all_goals (try (exfalso;go_light;simp_all;done));go_ret;exact ⟨rfl,yc.out⟩
  subst h0;by_cases hmz:m=0
  ·subst hmz;obtain rfl:R=8:=by rw[HD.out,dF];simp[HM.out]
   go_wp2;all_goals (try (exfalso;go_light;simp_all;done));go_ret;exact ⟨rfl,yc.out⟩
  have qz:((m:Int)==0)=false:=by simpa using hmz
  have wL:=hide hmz;go_wp2_with fail;refine (mZ _ x.kind).mono ?_;rintro e WR ⟨rfl,yX⟩;have HN:=hide (HN.out.below yX);have gF:=hide (gF.out.below yX);have HC:=hide (HC.out.below yX);have HO:=hide (HO.out.below yX);have HK:=hide (HK.out.below yX);obtain ⟨g0,g1,g2,g3,g4,g5,g6,g7,g8,g9,g10,g11,g12,g13,LR⟩:=fq yX LR g0 g1 g2 g3 g4 g5 g6 g7 g8 g9 g10 g11 g12 g13;have kH:=hide (aa yc.out yX);clear yX;rw[HU.out];cases U
  ·obtain rfl:R=0:=by rw[HD.out,dF];simp[HM.out,wL.out]
   go_wp2;all_goals (try (exfalso;go_light;simp_all;done));go_ret;exact ⟨rfl,kH.out⟩
  go_wp2_with fail;refine (jW _ A2 n2 c2 ocols HO.out).mono ?_;rintro e WS ⟨rfl,yY⟩;have HN:=hide (HN.out.below yY);have gF:=hide (gF.out.below yY);have HC:=hide (HC.out.below yY);have HO:=hide (HO.out.below yY);have HK:=hide (HK.out.below yY);obtain ⟨g0,g1,g2,g3,g4,g5,g6,g7,g8,g9,g10,g11,g12,g13,LR⟩:=fq yY LR g0 g1 g2 g3 g4 g5 g6 g7 g8 g9 g10 g11 g12 g13;have jq:=hide (aa kH.out yY);clear yY;rw[GH.out];by_cases hce:CE=0
  ·subst hce;go_wp2_with fail;refine (HI2.out _ (by exact HO.out) (by exact gF.out)).mono ?_;rintro e w7 ⟨⟨v2,rfl,tu⟩,j5⟩;obtain ⟨A5,c5,rfl⟩:=tu.form;obtain ⟨m2,hm2⟩: ∃m,os.length=m:=⟨_,rfl⟩;have FN:=iK tu rfl;rw[hm2]at FN⊢;have zS:=hide hm2;clear tu hm2;have HN:=hide (HN.out.below j5);have HC:=hide (HC.out.below j5);have HO:=hide (HO.out.below j5);have HK:=hide (HK.out.below j5);obtain ⟨g0,g1,g2,g3,g4,g5,g6,g7,g8,g9,g10,g11,g12,g13,LR⟩:=fq j5 LR g0 g1 g2 g3 g4 g5 g6 g7 g8 g9 g10 g11 g12 g13;have Io:=hide (aa jq.out j5);clear j5;have zR:=hide FN;clear FN;by_cases hoe:oe=0
   ·subst hoe;by_cases hmm:m=m2
    ·subst hmm;have HD2:Hid (R=if (List.zip is os).any (uO cols ocols)=true then 7 else 0):=hide (by rw[HD.out,dF];simp[HM.out,wL.out,zS.out]);obtain ⟨W5,rfl⟩: ∃W,W=w7:=⟨_,rfl⟩;have h63:=HK.out.le;go_wp2;go_loopw [83] (λi wr=> ∃k:Nat,k<=m/\i=.int .i64 k/\(List.zip is os).any (uO cols ocols)=((List.zip is os).drop k).any (uO cols ocols)/\Below W5.heap.size W5 wr) (λi _=>m-(RowKit.intOf i).toNat)
     case atStart=>exact ⟨0,Nat.zero_le _,rfl,rfl,Below.refl _ _⟩
     case round=>
      obtain ⟨k,hk,rfl,heq,hb⟩:=hrel;have HE:=hide heq;clear heq;have HN:=hide (HN.out.below hb);have HC:=hide (HC.out.below hb);have HO:=hide (HO.out.below hb);have HK:=hide (HK.out.below hb);have zR:=hide (zR.out.below hb);obtain ⟨g0,g1,g2,g3,g4,g5,g6,g7,g8,g9,g10,g11,g12,g13,LR⟩:=fq hb LR g0 g1 g2 g3 g4 g5 g6 g7 g8 g9 g10 g11 g12 g13;have gY:=hide hb;clear hb;clear g0 g1 g2 g3 g4 g5 g6 g7 g8 g9 g10 g11 g12 g13;by_cases hlt:k<m
      ·obtain ⟨b,off,j1,Cm,hBb,HX,e0,_⟩:=HK.out.int hlt
       first|(subst Cm)|(injection Cm with Cm;injection Cm with hA5 hA6;subst hA5;subst hA6)
       obtain ⟨b2,OZ,j2,rfl,N9,HY,f0,_⟩:=zR.out.int hlt;have hr1:=HR1.out (by first|rfl|trivial) j1 (aF HX.out);have hr2:=HR2.out (by first|rfl|trivial) j2 (aF HY.out);rw[JO.out]at hr1;rw[BP.out]at hr2;obtain ⟨i1,rfl⟩: ∃i:Nat,j1=(i:Int):=⟨j1.toNat,by omega⟩;obtain ⟨i2,rfl⟩: ∃i:Nat,j2=(i:Int):=⟨j2.toNat,by omega⟩;obtain ⟨b3,JF,y1,hA1,Oa,HZ1,_,p1,_,_⟩:=HC.out.col (k:=i1) (by omega)
       first|(subst hA1)|(injection hA1 with hA1;injection hA1 with hA7 hA8;subst hA7;subst hA8)
       obtain ⟨b4,O0,y2,rfl,Ob,HZ2,_,q1,_,_⟩:=HO.out.col (k:=i2) (by omega);have Ej:Hid ((List.zip is os).drop k=((i1:Int),(i2:Int)) :: (List.zip is os).drop (k+1)):=hide (by
        rw[List.zip,List.drop_zipWith,HX.out,HY.out,List.zipWith_cons_cons,List.drop_zipWith])
       have oN:Hid (uO cols ocols ((i1:Int),(i2:Int))=(y1.kind != y2.kind)):=hide (by
        rw[uO];simp only[Int.toNat_natCast];rw[iD HZ1.out,iD HZ2.out])
       have k0:(0:Int)<=(k:Int):=by omega
       have k1:(k:Int)<(m:Int):=by omega
       have TR:(0:Int)<=(i1:Int):=by omega
       have i11:(i1:Int)<(n1:Int):=hr1.2;have i20:(0:Int)<=(i2:Int):=by omega
       have i21:(i2:Int)<(n2:Int):=hr2.2;have jr:=hide gY.out;have oM:=hide (aa Io.out gY.out);clear hr1 hr2 HZ1 HZ2 HX HY;obtain ⟨k3,hk3⟩: ∃q,y1.kind=q:=⟨_,rfl⟩;obtain ⟨k4,hk4⟩: ∃q,y2.kind=q:=⟨_,rfl⟩;rw[hk3]at p1 oN;rw[hk4]at q1 oN;clear hk3 hk4;go_wp2;go_quiet (fail);by_cases hq:k3=k4
       ·subst hq;have HN:Hid ((List.zip is os).any (uO cols ocols)=((List.zip is os).drop (k+1)).any (uO cols ocols)):=hide (by rw[HE.out,Ej.out,List.any_cons,oN.out];simp);go_wp2;all_goals (try (exfalso;go_light;simp_all;done));go_roundw
        case rel=>exact ⟨k+1,by omega,by go_num,HN.out,below_drewN jr.out _⟩
        case measure=>simp[RowKit.intOf];omega
       ·have hq2:(k3 != k4)=true:=by simpa using hq
        obtain rfl:R=7:=by rw[HD2.out,HE.out,Ej.out,List.any_cons,oN.out,hq2];simp
        go_wp2;all_goals (try (exfalso;go_light;simp_all;done));go_ret;exact ⟨rfl,below_drewN oM.out _⟩
      ·obtain rfl:R=0:=by rw[HD2.out,HE.out,List.drop_eq_nil_of_le (by rw[List.length_zip,HM.out,zS.out];omega)];rfl
       have oM:=hide (aa Io.out gY.out);go_wp2;all_goals (try (exfalso;go_light;simp_all;done));go_ret;exact ⟨rfl,oM.out⟩
    ·have q5:((m:Int) != (m2:Int))=true:=by simp;omega
     obtain rfl:R=8:=by rw[HD.out,dF];simp[HM.out,wL.out,zS.out,hmm]
     go_wp2;all_goals (try (exfalso;go_light;simp_all;done));go_ret;exact ⟨rfl,Io.out⟩
   ·have q4:(oe != 0)=true:=by simpa using hoe
    obtain rfl:R=oe:=by rw[HD.out,dF];simp[HM.out,wL.out,hoe]
    go_wp2;all_goals (try (exfalso;go_light;simp_all;done));go_ret;exact ⟨rfl,Io.out⟩
  ·have q3:(CE != 0)=true:=by simpa using hce
   obtain rfl:R=CE:=by rw[HD.out,dF];simp[HM.out,wL.out,hce]
   go_wp2;all_goals (try (exfalso;go_light;simp_all;done));go_ret;exact ⟨rfl,jq.out⟩
end Go.Proofs.YtopjjlmfilgngaaGreatDoor
