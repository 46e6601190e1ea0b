/-
  check.checkColumns.
-/
import Derived.Test.YtopjjlmfilgngaaGreatDoorGax
namespace Go.Proofs.YtopjjlmfilgngaaGreatDoor
set_option maxHeartbeats 4000000
set_option maxRecDepth 100000
open Go.RowKit
set_option linter.unusedSimpArgs false
set_option linter.unusedVariables false
def mW (cols ocols:List Col)(p:Int×Int):Bool:=(cols.getD p.1.toNat default).kind != (ocols.getD p.2.toNat default).kind
def bQ (sg U:Bool)(ie:Int)(is:List Int)(k0 ce oe:Int)(os:List Int)(df:Bool):Int:=
 if ie≠0 then ie else if is.length=0\/(sg=true/\1<is.length) then 8 else if sg=true/\k0≠2 then 7 else if U=false then 0
 else if ce≠0 then ce else if oe≠0 then oe else if is.length≠os.length then 8 else if df=true then 7 else 0
theorem qf (c:Chk)(cols ocols:List Col):jK c cols ocols=
  bQ (c.kind==2 || c.kind==6) (gH c.kind) (bi cols c.cols).1 (bi cols c.cols).2 (cols.getD ((bi cols c.cols).2.getD 0 0).toNat default).kind (aC ocols) (bi ocols c.ocols).1 (bi ocols c.ocols).2 ((List.zip (bi cols c.cols).2 (bi ocols c.ocols).2).any (mW cols ocols)):=by
 simp only[jK,bQ,Bool.or_eq_true,beq_iff_eq];rfl
theorem lH {cols:List Col}{names:List ByteArray}(h:(bi cols names).1=0): ∀y∈(bi cols names).2,0<=y/\y<(cols.length:Int):=λy hy=>by
 obtain ⟨h1,h2,_⟩:=jG h;rw[h1]at hy;obtain ⟨s,hs,rfl⟩:=List.mem_map.1 hy;exact h2 s hs
theorem eT {α:Type}{xs:List α}{k:Nat}{x d:α}{l:List α}(h:xs.drop k=x :: l):xs.getD k d=x:=by
 rw[List.getD_eq_getElem?_getD,(bX h).1];rfl
theorem vZ (w:World)(x:Chk)(A:Option Addr)(n c:Nat)(hn:In w A n c x.cols)(A':Option Addr)(n' c':Nat)(hn':In w A' n' c' x.ocols)(aX:Option Addr)(n'' c'':Nat)(A1:Option Addr)(n1 c1:Nat)(cols:List Col)(hc:In w A1 n1 c1 cols)(A2:Option Addr)(n2 c2:Nat)(ocols:List Col)(ho:In w A2 n2 c2 ocols)(hb0:n<=4096)(hb1:n'<=4096)(hb2:n1<=4096)(hb3:n2<=4096):
  Calls Tryz.prog 145 #[.agg (aB x A n c A' n' c' aX n'' c'').toArray,.slice A1 n1 c1,.slice A2 n2 c2] w λe w'=>e=.returned (.int .i64 (jK x cols ocols))/\Below w.heap.size w w':=by
 have HD:=hide (qf x cols ocols);have HI1:=hide λW hx hy=>rD W A1 n1 c1 cols hx A n c x.cols hy (by omega) (by omega);have HI2:=hide λW hx hy=>rD W A2 n2 c2 ocols hx A' n' c' x.ocols hy (by omega) (by omega);have HR1:=hide (λh=>lH (cols:=cols) (names:=x.cols) h);have HR2:=hide (λh=>lH (cols:=ocols) (names:=x.ocols) h);have yu:=hide (Nat.le_trans (jH cols x.cols) (by rw[hn.len];exact hb0));have yw:=hide (Nat.le_trans (jH ocols x.ocols) (by rw[hn'.len];exact hb1));have Gm:=hide hc.len;have oG:=hide ho.len;obtain ⟨R,hR⟩: ∃R,jK x cols ocols=R:=⟨_,rfl⟩;obtain ⟨I1,hI1⟩: ∃I,bi cols x.cols=I:=⟨_,rfl⟩;obtain ⟨I2,hI2⟩: ∃I,bi ocols x.ocols=I:=⟨_,rfl⟩;obtain ⟨U,hU⟩: ∃U,gH x.kind=U:=⟨_,rfl⟩;rw[hR,hI1,hI2,hU]at HD;rw[hI1]at HI1 HR1 yu;rw[hI2]at HI2 HR2 yw;rw[hR];have HU:=hide hU;clear hR hI1 hI2 hU;obtain ⟨ie,is⟩:=I1;obtain ⟨oe,os⟩:=I2;simp only at HD HI1 HI2 HR1 HR2 yu yw;obtain ⟨K0,Ho⟩: ∃K,(cols.getD (is.getD 0 0).toNat default).kind=K:=⟨_,rfl⟩;rw[Ho]at HD;have PI:=hide Ho;clear Ho;obtain ⟨CE,Dv⟩: ∃CE,aC ocols=CE:=⟨_,rfl⟩;rw[Dv]at HD;have I4:=hide Dv;obtain ⟨sg,hsg⟩: ∃s,(x.kind==2 || x.kind==6)=s:=⟨_,rfl⟩;rw[hsg]at HD;clear Dv;have hk:((x.kind==2)=true/\sg=true)\/((x.kind==2)=false/\(x.kind==6)=true/\sg=true)\/((x.kind==2)=false/\(x.kind==6)=false/\sg=false):=by
  cases h1:(x.kind==2) <;> cases h2:(x.kind==6) <;> simp[h1,h2]at hsg <;> simp[hsg]
 clear hsg;simp only[aB];rcases hk with ⟨h2,rfl⟩|⟨h2,h6,rfl⟩|⟨h2,h6,rfl⟩
 ·go_enter Tryz.func145,Tryz.ntmps145;have HN:=hide hn;clear hn;have fD:=hide hn';clear hn';have HC:=hide hc;clear hc;have HO:=hide ho;clear ho;go_wp2_with fail;obtain ⟨W1,hW1⟩: ∃W,W=w.alloc (.cells #[.string x.name,.string x.table,.int .i64 x.kind,.slice A n c,.string x.other,.slice A' n' c',.int .i64 x.low,.int .i64 x.high,.slice aX n'' c'',.int .i64 x.ln,.int .i64 x.ld,.int .i64 x.mn,.int .i64 x.md,.int .i64 x.policy] 48):=⟨_,rfl⟩;obtain ⟨hbW1,fZ,g0,g1,g2,g3,g4,g5,g6,g7,g8,g9,g10,g11,g12,g13⟩:=bT hW1 rfl;rw[<-hW1];clear hW1;have HN:=hide (HN.out.below hbW1);have fD:=hide (fD.out.below hbW1);have HC:=hide (HC.out.below hbW1);have HO:=hide (HO.out.below hbW1);have lN:=hide hbW1;clear hbW1;have LR:=lt_of_cell g0;go_wp2_with fail;refine (HI1.out _ (by exact HC.out) (by exact HN.out)).mono ?_;rintro e w1 ⟨⟨v,rfl,hov⟩,hb1⟩;obtain ⟨A4,c4,rfl⟩:=hov.form;obtain ⟨m,hm⟩: ∃m,is.length=m:=⟨_,rfl⟩;have uW:=eu hov rfl;rw[hm]at uW⊢;have HM:=hide hm;clear hov hm;have HN:=hide (HN.out.below hb1);have fD:=hide (fD.out.below hb1);have HC:=hide (HC.out.below hb1);have HO:=hide (HO.out.below hb1);obtain ⟨g0,g1,g2,g3,g4,g5,g6,g7,g8,g9,g10,g11,g12,g13,LR⟩:=dR hb1 LR g0 g1 g2 g3 g4 g5 g6 g7 g8 g9 g10 g11 g12 g13;have iM:=hide (aa lN.out hb1);clear hb1;have HK:=hide uW;clear uW;by_cases h0:ie=0;rotate_left
  ·have q0:(ie != 0)=true:=by simpa using h0
   obtain rfl:R=ie:=by rw[HD.out,bQ,if_pos h0]
   go_wp2;all_goals (try (exfalso;go_light;simp_all;done));go_ret;exact ⟨rfl,iM.out⟩
  subst h0;by_cases hmz:m=0
  ·subst hmz;obtain rfl:R=8:=by rw[HD.out,bQ];simp[HM.out]
   go_wp2;all_goals (try (exfalso;go_light;simp_all;done));go_ret;exact ⟨rfl,iM.out⟩
  have qz:((m:Int)==0)=false:=by simpa using hmz
  have pO:=hide hmz;by_cases hm1:1<m
  ·have q1:decide (1<(m:Int))=true:=by simp;omega
   obtain rfl:R=8:=by rw[HD.out,bQ];simp[HM.out,hm1]
   go_wp2;all_goals (try (exfalso;go_light;simp_all;done));go_ret;exact ⟨rfl,iM.out⟩
  have q1:decide (1<(m:Int))=false:=by simp;omega
  have vQ:=hide hm1;obtain ⟨b0,o0,j0,rfl,TB,HX0,e0,_⟩:=HK.out.int (k:=0) (by omega);rw[Nat.add_zero]at e0;have hr0:=HR1.out (by first|rfl|trivial) j0 (aH HX0.out);rw[Gm.out]at hr0;obtain ⟨i0,rfl⟩: ∃i:Nat,j0=(i:Int):=⟨j0.toNat,by omega⟩;obtain ⟨bc,oc,y0,rfl,TC,HZ0,_,p0,_,_⟩:=HC.out.col (k:=i0) (by omega);have i00:(0:Int)<=(i0:Int):=by omega
  have i01:(i0:Int)<(n1:Int):=hr0.2;have z01:(0:Int)<(m:Int):=by omega
  obtain ⟨k5,hk5⟩: ∃q,y0.kind=q:=⟨_,rfl⟩;have e5:K0=k5:=by
   rw[<-PI.out,eT HX0.out,<-hk5];simp only[Int.toNat_natCast];rw[eT HZ0.out]
  rw[hk5]at p0;subst e5;clear hk5 hr0 HX0 HZ0;by_cases hk2:K0=2;rotate_left
  ·have q2:(K0 != 2)=true:=by simpa using hk2
   obtain rfl:R=7:=by rw[HD.out,bQ];simp[HM.out,pO.out,vQ.out,hk2]
   go_wp2;all_goals (try (exfalso;go_light;simp_all;done));go_ret;exact ⟨rfl,iM.out⟩
  subst hk2;have q2:((2:Int) != 2)=false:=by decide
  go_wp2_with fail;refine (sK _ x.kind).mono ?_;rintro e w3 ⟨rfl,hb3⟩;have HN:=hide (HN.out.below hb3);have fD:=hide (fD.out.below hb3);have HC:=hide (HC.out.below hb3);have HO:=hide (HO.out.below hb3);have HK:=hide (HK.out.below hb3);obtain ⟨g0,g1,g2,g3,g4,g5,g6,g7,g8,g9,g10,g11,g12,g13,LR⟩:=dR hb3 LR g0 g1 g2 g3 g4 g5 g6 g7 g8 g9 g10 g11 g12 g13;have lW:=hide (aa iM.out hb3);clear hb3;rw[HU.out];cases U
  ·obtain rfl:R=0:=by rw[HD.out,bQ];simp[HM.out,pO.out,vQ.out]
   go_wp2;all_goals (try (exfalso;go_light;simp_all;done));go_ret;exact ⟨rfl,lW.out⟩
  go_wp2_with fail;refine (oJ _ A2 n2 c2 ocols HO.out).mono ?_;rintro e w5 ⟨rfl,hb5⟩;have HN:=hide (HN.out.below hb5);have fD:=hide (fD.out.below hb5);have HC:=hide (HC.out.below hb5);have HO:=hide (HO.out.below hb5);have HK:=hide (HK.out.below hb5);obtain ⟨g0,g1,g2,g3,g4,g5,g6,g7,g8,g9,g10,g11,g12,g13,LR⟩:=dR hb5 LR g0 g1 g2 g3 g4 g5 g6 g7 g8 g9 g10 g11 g12 g13;have tQ:=hide (aa lW.out hb5);clear hb5;rw[I4.out];by_cases hce:CE=0
  ·subst hce;go_wp2_with fail;refine (HI2.out _ (by exact HO.out) (by exact fD.out)).mono ?_;rintro e w7 ⟨⟨v2,rfl,mH⟩,dD⟩;obtain ⟨A5,c5,rfl⟩:=mH.form;obtain ⟨m2,hm2⟩: ∃m,os.length=m:=⟨_,rfl⟩;have zl:=eu mH rfl;rw[hm2]at zl⊢;have vL:=hide hm2;clear mH hm2;have HN:=hide (HN.out.below dD);have HC:=hide (HC.out.below dD);have HO:=hide (HO.out.below dD);have HK:=hide (HK.out.below dD);obtain ⟨g0,g1,g2,g3,g4,g5,g6,g7,g8,g9,g10,g11,g12,g13,LR⟩:=dR dD LR g0 g1 g2 g3 g4 g5 g6 g7 g8 g9 g10 g11 g12 g13;have kP:=hide (aa tQ.out dD);clear dD;have vK:=hide zl;clear zl;by_cases hoe:oe=0
   ·subst hoe;by_cases hmm:m=m2
    ·subst hmm;have HD2:Hid (R=if (List.zip is os).any (mW cols ocols)=true then 7 else 0):=hide (by rw[HD.out,bQ];simp[HM.out,pO.out,vQ.out,vL.out]);obtain ⟨W5,rfl⟩: ∃W,W=w7:=⟨_,rfl⟩;have h63:=HK.out.le;go_wp2;go_loopw [83] (λi wr=> ∃k:Nat,k<=m/\i=.int .i64 k/\(List.zip is os).any (mW cols ocols)=((List.zip is os).drop k).any (mW cols ocols)/\Below W5.heap.size W5 wr) (λi _=>m-(RowKit.intOf i).toNat)
     case atStart=>exact ⟨0,Nat.zero_le _,rfl,rfl,Below.refl _ _⟩
     case round=>
      obtain ⟨k,hk,rfl,heq,hb⟩:=hrel;have HE:=hide heq;clear heq;have HN:=hide (HN.out.below hb);have HC:=hide (HC.out.below hb);have HO:=hide (HO.out.below hb);have HK:=hide (HK.out.below hb);have vK:=hide (vK.out.below hb);obtain ⟨g0,g1,g2,g3,g4,g5,g6,g7,g8,g9,g10,g11,g12,g13,LR⟩:=dR hb LR g0 g1 g2 g3 g4 g5 g6 g7 g8 g9 g10 g11 g12 g13;have qH:=hide hb;clear hb;clear g0 g1 g2 g3 g4 g5 g6 g7 g8 g9 g10 g11 g12 g13;by_cases hlt:k<m
      ·obtain ⟨b,off,j1,uT,hBb,HX,e0,_⟩:=HK.out.int hlt
       first|(subst uT)|(injection uT with uT;injection uT with hA5 hA6;subst hA5;subst hA6)
       obtain ⟨b2,KU,j2,rfl,Hm,HY,f0,_⟩:=vK.out.int hlt;have hr1:=HR1.out (by first|rfl|trivial) j1 (aH HX.out);have hr2:=HR2.out (by first|rfl|trivial) j2 (aH HY.out);rw[Gm.out]at hr1;rw[oG.out]at hr2;obtain ⟨i1,rfl⟩: ∃i:Nat,j1=(i:Int):=⟨j1.toNat,by omega⟩;obtain ⟨i2,rfl⟩: ∃i:Nat,j2=(i:Int):=⟨j2.toNat,by omega⟩;obtain ⟨b3,D5,y1,hA1,Nt,HZ1,_,p1,_,_⟩:=HC.out.col (k:=i1) (by omega)
       first|(subst hA1)|(injection hA1 with hA1;injection hA1 with hA7 hA8;subst hA7;subst hA8)
       obtain ⟨b4,Om,y2,rfl,Nu,HZ2,_,q1,_,_⟩:=HO.out.col (k:=i2) (by omega);have EF:Hid ((List.zip is os).drop k=((i1:Int),(i2:Int)) :: (List.zip is os).drop (k+1)):=hide (by
        rw[List.zip,List.drop_zipWith,HX.out,HY.out,List.zipWith_cons_cons,List.drop_zipWith])
       have pI:Hid (mW cols ocols ((i1:Int),(i2:Int))=(y1.kind != y2.kind)):=hide (by
        rw[mW];simp only[Int.toNat_natCast];rw[eT HZ1.out,eT HZ2.out])
       have k0:(0:Int)<=(k:Int):=by omega
       have k1:(k:Int)<(m:Int):=by omega
       have WP:(0:Int)<=(i1:Int):=by omega
       have i11:(i1:Int)<(n1:Int):=hr1.2;have i20:(0:Int)<=(i2:Int):=by omega
       have i21:(i2:Int)<(n2:Int):=hr2.2;have jk:=hide qH.out;have oD:=hide (aa kP.out qH.out);clear hr1 hr2 HZ1 HZ2 HX HY;obtain ⟨k3,hk3⟩: ∃q,y1.kind=q:=⟨_,rfl⟩;obtain ⟨k4,hk4⟩: ∃q,y2.kind=q:=⟨_,rfl⟩;rw[hk3]at p1 pI;rw[hk4]at q1 pI;clear hk3 hk4;go_wp2;go_quiet (fail);by_cases hq:k3=k4
       ·subst hq;have HN:Hid ((List.zip is os).any (mW cols ocols)=((List.zip is os).drop (k+1)).any (mW cols ocols)):=hide (by rw[HE.out,EF.out,List.any_cons,pI.out];simp);go_wp2;all_goals (try (exfalso;go_light;simp_all;done));go_roundw
        case rel=>exact ⟨k+1,by omega,by go_num,HN.out,below_drewN jk.out _⟩
        case measure=>simp[RowKit.intOf];omega
       ·have hq2:(k3 != k4)=true:=by simpa using hq
        obtain rfl:R=7:=by rw[HD2.out,HE.out,EF.out,List.any_cons,pI.out,hq2];simp
        go_wp2;all_goals (try (exfalso;go_light;simp_all;done));go_ret;exact ⟨rfl,below_drewN oD.out _⟩
      ·obtain rfl:R=0:=by rw[HD2.out,HE.out,List.drop_eq_nil_of_le (by rw[List.length_zip,HM.out,vL.out];omega)];rfl
       have oD:=hide (aa kP.out qH.out);go_wp2;all_goals (try (exfalso;go_light;simp_all;done));go_ret;exact ⟨rfl,oD.out⟩
    ·have q5:((m:Int) != (m2:Int))=true:=by simp;omega
     obtain rfl:R=8:=by rw[HD.out,bQ];simp[HM.out,pO.out,vQ.out,vL.out,hmm]
     go_wp2;all_goals (try (exfalso;go_light;simp_all;done));go_ret;exact ⟨rfl,kP.out⟩
   ·have q4:(oe != 0)=true:=by simpa using hoe
    obtain rfl:R=oe:=by rw[HD.out,bQ];simp[HM.out,pO.out,vQ.out,hoe]
    go_wp2;all_goals (try (exfalso;go_light;simp_all;done));go_ret;exact ⟨rfl,kP.out⟩
  ·have q3:(CE != 0)=true:=by simpa using hce
   obtain rfl:R=CE:=by rw[HD.out,bQ];simp[HM.out,pO.out,vQ.out,hce]
   go_wp2;all_goals (try (exfalso;go_light;simp_all;done));go_ret;exact ⟨rfl,tQ.out⟩
 ·go_enter Tryz.func145,Tryz.ntmps145;have HN:=hide hn;clear hn;have fD:=hide hn';clear hn';have HC:=hide hc;clear hc;have HO:=hide ho;clear ho;go_wp2_with fail;obtain ⟨W1,hW1⟩: ∃W,W=w.alloc (.cells #[.string x.name,.string x.table,.int .i64 x.kind,.slice A n c,.string x.other,.slice A' n' c',.int .i64 x.low,.int .i64 x.high,.slice aX n'' c'',.int .i64 x.ln,.int .i64 x.ld,.int .i64 x.mn,.int .i64 x.md,.int .i64 x.policy] 48):=⟨_,rfl⟩;obtain ⟨hbW1,fZ,g0,g1,g2,g3,g4,g5,g6,g7,g8,g9,g10,g11,g12,g13⟩:=bT hW1 rfl;rw[<-hW1];clear hW1;have HN:=hide (HN.out.below hbW1);have fD:=hide (fD.out.below hbW1);have HC:=hide (HC.out.below hbW1);have HO:=hide (HO.out.below hbW1);have Eo:=hide hbW1;clear hbW1;have LR:=lt_of_cell g0;go_wp2_with fail;refine (HI1.out _ (by exact HC.out) (by exact HN.out)).mono ?_;rintro e w1 ⟨⟨v,rfl,hov⟩,hb1⟩;obtain ⟨A4,c4,rfl⟩:=hov.form;obtain ⟨m,hm⟩: ∃m,is.length=m:=⟨_,rfl⟩;have uW:=eu hov rfl;rw[hm]at uW⊢;have HM:=hide hm;clear hov hm;have HN:=hide (HN.out.below hb1);have fD:=hide (fD.out.below hb1);have HC:=hide (HC.out.below hb1);have HO:=hide (HO.out.below hb1);obtain ⟨g0,g1,g2,g3,g4,g5,g6,g7,g8,g9,g10,g11,g12,g13,LR⟩:=dR hb1 LR g0 g1 g2 g3 g4 g5 g6 g7 g8 g9 g10 g11 g12 g13;have fM:=hide (aa Eo.out hb1);clear hb1;have HK:=hide uW;clear uW;by_cases h0:ie=0;rotate_left
  ·have q0:(ie != 0)=true:=by simpa using h0
   obtain rfl:R=ie:=by rw[HD.out,bQ,if_pos h0]
   go_wp2;all_goals (try (exfalso;go_light;simp_all;done));go_ret;exact ⟨rfl,fM.out⟩
  subst h0;by_cases hmz:m=0
  ·subst hmz;obtain rfl:R=8:=by rw[HD.out,bQ];simp[HM.out]
   go_wp2;all_goals (try (exfalso;go_light;simp_all;done));go_ret;exact ⟨rfl,fM.out⟩
  have qz:((m:Int)==0)=false:=by simpa using hmz
  have pO:=hide hmz;by_cases hm1:1<m
  ·have q1:decide (1<(m:Int))=true:=by simp;omega
   obtain rfl:R=8:=by rw[HD.out,bQ];simp[HM.out,hm1]
   go_wp2;all_goals (try (exfalso;go_light;simp_all;done));go_ret;exact ⟨rfl,fM.out⟩
  have q1:decide (1<(m:Int))=false:=by simp;omega
  have vQ:=hide hm1;obtain ⟨b0,o0,j0,rfl,TB,HX0,e0,_⟩:=HK.out.int (k:=0) (by omega);rw[Nat.add_zero]at e0;have hr0:=HR1.out (by first|rfl|trivial) j0 (aH HX0.out);rw[Gm.out]at hr0;obtain ⟨i0,rfl⟩: ∃i:Nat,j0=(i:Int):=⟨j0.toNat,by omega⟩;obtain ⟨bc,oc,y0,rfl,TC,HZ0,_,p0,_,_⟩:=HC.out.col (k:=i0) (by omega);have i00:(0:Int)<=(i0:Int):=by omega
  have i01:(i0:Int)<(n1:Int):=hr0.2;have z01:(0:Int)<(m:Int):=by omega
  obtain ⟨k5,hk5⟩: ∃q,y0.kind=q:=⟨_,rfl⟩;have e5:K0=k5:=by
   rw[<-PI.out,eT HX0.out,<-hk5];simp only[Int.toNat_natCast];rw[eT HZ0.out]
  rw[hk5]at p0;subst e5;clear hk5 hr0 HX0 HZ0;by_cases hk2:K0=2;rotate_left
  ·have q2:(K0 != 2)=true:=by simpa using hk2
   obtain rfl:R=7:=by rw[HD.out,bQ];simp[HM.out,pO.out,vQ.out,hk2]
   go_wp2;all_goals (try (exfalso;go_light;simp_all;done));go_ret;exact ⟨rfl,fM.out⟩
  subst hk2;have q2:((2:Int) != 2)=false:=by decide
  go_wp2_with fail;refine (sK _ x.kind).mono ?_;rintro e w11 ⟨rfl,zf⟩;have HN:=hide (HN.out.below zf);have fD:=hide (fD.out.below zf);have HC:=hide (HC.out.below zf);have HO:=hide (HO.out.below zf);have HK:=hide (HK.out.below zf);obtain ⟨g0,g1,g2,g3,g4,g5,g6,g7,g8,g9,g10,g11,g12,g13,LR⟩:=dR zf LR g0 g1 g2 g3 g4 g5 g6 g7 g8 g9 g10 g11 g12 g13;have jD:=hide (aa fM.out zf);clear zf;rw[HU.out];cases U
  ·obtain rfl:R=0:=by rw[HD.out,bQ];simp[HM.out,pO.out,vQ.out]
   go_wp2;all_goals (try (exfalso;go_light;simp_all;done));go_ret;exact ⟨rfl,jD.out⟩
  go_wp2_with fail;refine (oJ _ A2 n2 c2 ocols HO.out).mono ?_;rintro e w13 ⟨rfl,zg⟩;have HN:=hide (HN.out.below zg);have fD:=hide (fD.out.below zg);have HC:=hide (HC.out.below zg);have HO:=hide (HO.out.below zg);have HK:=hide (HK.out.below zg);obtain ⟨g0,g1,g2,g3,g4,g5,g6,g7,g8,g9,g10,g11,g12,g13,LR⟩:=dR zg LR g0 g1 g2 g3 g4 g5 g6 g7 g8 g9 g10 g11 g12 g13;have xG:=hide (aa jD.out zg);clear zg;rw[I4.out];by_cases hce:CE=0
  ·subst hce;go_wp2_with fail;refine (HI2.out _ (by exact HO.out) (by exact fD.out)).mono ?_;rintro e w7 ⟨⟨v2,rfl,mH⟩,dD⟩;obtain ⟨A5,c5,rfl⟩:=mH.form;obtain ⟨m2,hm2⟩: ∃m,os.length=m:=⟨_,rfl⟩;have zl:=eu mH rfl;rw[hm2]at zl⊢;have vL:=hide hm2;clear mH hm2;have HN:=hide (HN.out.below dD);have HC:=hide (HC.out.below dD);have HO:=hide (HO.out.below dD);have HK:=hide (HK.out.below dD);obtain ⟨g0,g1,g2,g3,g4,g5,g6,g7,g8,g9,g10,g11,g12,g13,LR⟩:=dR dD LR g0 g1 g2 g3 g4 g5 g6 g7 g8 g9 g10 g11 g12 g13;have mX:=hide (aa xG.out dD);clear dD;have vK:=hide zl;clear zl;by_cases hoe:oe=0
   ·subst hoe;by_cases hmm:m=m2
    ·subst hmm;have HD2:Hid (R=if (List.zip is os).any (mW cols ocols)=true then 7 else 0):=hide (by rw[HD.out,bQ];simp[HM.out,pO.out,vQ.out,vL.out]);obtain ⟨W5,rfl⟩: ∃W,W=w7:=⟨_,rfl⟩;have h63:=HK.out.le;go_wp2;go_loopw [83] (λi wr=> ∃k:Nat,k<=m/\i=.int .i64 k/\(List.zip is os).any (mW cols ocols)=((List.zip is os).drop k).any (mW cols ocols)/\Below W5.heap.size W5 wr) (λi _=>m-(RowKit.intOf i).toNat)
     case atStart=>exact ⟨0,Nat.zero_le _,rfl,rfl,Below.refl _ _⟩
     case round=>
      obtain ⟨k,hk,rfl,heq,hb⟩:=hrel;have HE:=hide heq;clear heq;have HN:=hide (HN.out.below hb);have HC:=hide (HC.out.below hb);have HO:=hide (HO.out.below hb);have HK:=hide (HK.out.below hb);have vK:=hide (vK.out.below hb);obtain ⟨g0,g1,g2,g3,g4,g5,g6,g7,g8,g9,g10,g11,g12,g13,LR⟩:=dR hb LR g0 g1 g2 g3 g4 g5 g6 g7 g8 g9 g10 g11 g12 g13;have lQ:=hide hb;clear hb;clear g0 g1 g2 g3 g4 g5 g6 g7 g8 g9 g10 g11 g12 g13;by_cases hlt:k<m
      ·obtain ⟨b,off,j1,uT,hBb,HX,e0,_⟩:=HK.out.int hlt
       first|(subst uT)|(injection uT with uT;injection uT with hA5 hA6;subst hA5;subst hA6)
       obtain ⟨b2,KU,j2,rfl,Hm,HY,f0,_⟩:=vK.out.int hlt;have hr1:=HR1.out (by first|rfl|trivial) j1 (aH HX.out);have hr2:=HR2.out (by first|rfl|trivial) j2 (aH HY.out);rw[Gm.out]at hr1;rw[oG.out]at hr2;obtain ⟨i1,rfl⟩: ∃i:Nat,j1=(i:Int):=⟨j1.toNat,by omega⟩;obtain ⟨i2,rfl⟩: ∃i:Nat,j2=(i:Int):=⟨j2.toNat,by omega⟩;obtain ⟨b3,D5,y1,hA1,Nt,HZ1,_,p1,_,_⟩:=HC.out.col (k:=i1) (by omega)
       first|(subst hA1)|(injection hA1 with hA1;injection hA1 with hA7 hA8;subst hA7;subst hA8)
       obtain ⟨b4,Om,y2,rfl,Nu,HZ2,_,q1,_,_⟩:=HO.out.col (k:=i2) (by omega);have EF:Hid ((List.zip is os).drop k=((i1:Int),(i2:Int)) :: (List.zip is os).drop (k+1)):=hide (by
        rw[List.zip,List.drop_zipWith,HX.out,HY.out,List.zipWith_cons_cons,List.drop_zipWith])
       have pI:Hid (mW cols ocols ((i1:Int),(i2:Int))=(y1.kind != y2.kind)):=hide (by
        rw[mW];simp only[Int.toNat_natCast];rw[eT HZ1.out,eT HZ2.out])
       have k0:(0:Int)<=(k:Int):=by omega
       have k1:(k:Int)<(m:Int):=by omega
       have WP:(0:Int)<=(i1:Int):=by omega
       have i11:(i1:Int)<(n1:Int):=hr1.2;have i20:(0:Int)<=(i2:Int):=by omega
       have i21:(i2:Int)<(n2:Int):=hr2.2;have jk:=hide lQ.out;have oD:=hide (aa mX.out lQ.out);clear hr1 hr2 HZ1 HZ2 HX HY;obtain ⟨k3,hk3⟩: ∃q,y1.kind=q:=⟨_,rfl⟩;obtain ⟨k4,hk4⟩: ∃q,y2.kind=q:=⟨_,rfl⟩;rw[hk3]at p1 pI;rw[hk4]at q1 pI;clear hk3 hk4;go_wp2;go_quiet (fail);by_cases hq:k3=k4
       ·subst hq;have HN:Hid ((List.zip is os).any (mW cols ocols)=((List.zip is os).drop (k+1)).any (mW cols ocols)):=hide (by rw[HE.out,EF.out,List.any_cons,pI.out];simp);go_wp2;all_goals (try (exfalso;go_light;simp_all;done));go_roundw
        case rel=>exact ⟨k+1,by omega,by go_num,HN.out,below_drewN jk.out _⟩
        case measure=>simp[RowKit.intOf];omega
       ·have hq2:(k3 != k4)=true:=by simpa using hq
        obtain rfl:R=7:=by rw[HD2.out,HE.out,EF.out,List.any_cons,pI.out,hq2];simp
        go_wp2;all_goals (try (exfalso;go_light;simp_all;done));go_ret;exact ⟨rfl,below_drewN oD.out _⟩
      ·obtain rfl:R=0:=by rw[HD2.out,HE.out,List.drop_eq_nil_of_le (by rw[List.length_zip,HM.out,vL.out];omega)];rfl
       have oD:=hide (aa mX.out lQ.out);go_wp2;all_goals (try (exfalso;go_light;simp_all;done));go_ret;exact ⟨rfl,oD.out⟩
    ·have q5:((m:Int) != (m2:Int))=true:=by simp;omega
     obtain rfl:R=8:=by rw[HD.out,bQ];simp[HM.out,pO.out,vQ.out,vL.out,hmm]
     go_wp2;all_goals (try (exfalso;go_light;simp_all;done));go_ret;exact ⟨rfl,mX.out⟩
   ·have q4:(oe != 0)=true:=by simpa using hoe
    obtain rfl:R=oe:=by rw[HD.out,bQ];simp[HM.out,pO.out,vQ.out,hoe]
    go_wp2;all_goals (try (exfalso;go_light;simp_all;done));go_ret;exact ⟨rfl,mX.out⟩
  ·have q3:(CE != 0)=true:=by simpa using hce
   obtain rfl:R=CE:=by rw[HD.out,bQ];simp[HM.out,pO.out,vQ.out,hce]
   go_wp2;all_goals (try (exfalso;go_light;simp_all;done));go_ret;exact ⟨rfl,xG.out⟩
 ·go_enter Tryz.func145,Tryz.ntmps145;have HN:=hide hn;clear hn;have fD:=hide hn';clear hn';have HC:=hide hc;clear hc;have HO:=hide ho;clear ho;go_wp2_with fail;obtain ⟨W1,hW1⟩: ∃W,W=w.alloc (.cells #[.string x.name,.string x.table,.int .i64 x.kind,.slice A n c,.string x.other,.slice A' n' c',.int .i64 x.low,.int .i64 x.high,.slice aX n'' c'',.int .i64 x.ln,.int .i64 x.ld,.int .i64 x.mn,.int .i64 x.md,.int .i64 x.policy] 48):=⟨_,rfl⟩;obtain ⟨hbW1,fZ,g0,g1,g2,g3,g4,g5,g6,g7,g8,g9,g10,g11,g12,g13⟩:=bT hW1 rfl;rw[<-hW1];clear hW1;have HN:=hide (HN.out.below hbW1);have fD:=hide (fD.out.below hbW1);have HC:=hide (HC.out.below hbW1);have HO:=hide (HO.out.below hbW1);have j5:=hide hbW1;clear hbW1;have LR:=lt_of_cell g0;go_wp2_with fail;refine (HI1.out _ (by exact HC.out) (by exact HN.out)).mono ?_;rintro e w1 ⟨⟨v,rfl,hov⟩,hb1⟩;obtain ⟨A4,c4,rfl⟩:=hov.form;obtain ⟨m,hm⟩: ∃m,is.length=m:=⟨_,rfl⟩;have uW:=eu hov rfl;rw[hm]at uW⊢;have HM:=hide hm;clear hov hm;have HN:=hide (HN.out.below hb1);have fD:=hide (fD.out.below hb1);have HC:=hide (HC.out.below hb1);have HO:=hide (HO.out.below hb1);obtain ⟨g0,g1,g2,g3,g4,g5,g6,g7,g8,g9,g10,g11,g12,g13,LR⟩:=dR hb1 LR g0 g1 g2 g3 g4 g5 g6 g7 g8 g9 g10 g11 g12 g13;have xH:=hide (aa j5.out hb1);clear hb1;have HK:=hide uW;clear uW;by_cases h0:ie=0;rotate_left
  ·have q0:(ie != 0)=true:=by simpa using h0
   obtain rfl:R=ie:=by rw[HD.out,bQ,if_pos h0]
   go_wp2;all_goals (try (exfalso;go_light;simp_all;done));go_ret;exact ⟨rfl,xH.out⟩
  subst h0;by_cases hmz:m=0
  ·subst hmz;obtain rfl:R=8:=by rw[HD.out,bQ];simp[HM.out]
   go_wp2;all_goals (try (exfalso;go_light;simp_all;done));go_ret;exact ⟨rfl,xH.out⟩
  have qz:((m:Int)==0)=false:=by simpa using hmz
  have pO:=hide hmz;go_wp2_with fail;refine (sK _ x.kind).mono ?_;rintro e w19 ⟨rfl,Fv⟩;have HN:=hide (HN.out.below Fv);have fD:=hide (fD.out.below Fv);have HC:=hide (HC.out.below Fv);have HO:=hide (HO.out.below Fv);have HK:=hide (HK.out.below Fv);obtain ⟨g0,g1,g2,g3,g4,g5,g6,g7,g8,g9,g10,g11,g12,g13,LR⟩:=dR Fv LR g0 g1 g2 g3 g4 g5 g6 g7 g8 g9 g10 g11 g12 g13;have jE:=hide (aa xH.out Fv);clear Fv;rw[HU.out];cases U
  ·obtain rfl:R=0:=by rw[HD.out,bQ];simp[HM.out,pO.out]
   go_wp2;all_goals (try (exfalso;go_light;simp_all;done));go_ret;exact ⟨rfl,jE.out⟩
  go_wp2_with fail;refine (oJ _ A2 n2 c2 ocols HO.out).mono ?_;rintro e w21 ⟨rfl,rA⟩;have HN:=hide (HN.out.below rA);have fD:=hide (fD.out.below rA);have HC:=hide (HC.out.below rA);have HO:=hide (HO.out.below rA);have HK:=hide (HK.out.below rA);obtain ⟨g0,g1,g2,g3,g4,g5,g6,g7,g8,g9,g10,g11,g12,g13,LR⟩:=dR rA LR g0 g1 g2 g3 g4 g5 g6 g7 g8 g9 g10 g11 g12 g13;have gZ:=hide (aa jE.out rA);clear rA;rw[I4.out];by_cases hce:CE=0
  ·subst hce;go_wp2_with fail;refine (HI2.out _ (by exact HO.out) (by exact fD.out)).mono ?_;rintro e w7 ⟨⟨v2,rfl,mH⟩,dD⟩;obtain ⟨A5,c5,rfl⟩:=mH.form;obtain ⟨m2,hm2⟩: ∃m,os.length=m:=⟨_,rfl⟩;have zl:=eu mH rfl;rw[hm2]at zl⊢;have vL:=hide hm2;clear mH hm2;have HN:=hide (HN.out.below dD);have HC:=hide (HC.out.below dD);have HO:=hide (HO.out.below dD);have HK:=hide (HK.out.below dD);obtain ⟨g0,g1,g2,g3,g4,g5,g6,g7,g8,g9,g10,g11,g12,g13,LR⟩:=dR dD LR g0 g1 g2 g3 g4 g5 g6 g7 g8 g9 g10 g11 g12 g13;have qO:=hide (aa gZ.out dD);clear dD;have vK:=hide zl;clear zl;by_cases hoe:oe=0
   ·subst hoe;by_cases hmm:m=m2
    ·subst hmm;have HD2:Hid (R=if (List.zip is os).any (mW cols ocols)=true then 7 else 0):=hide (by rw[HD.out,bQ];simp[HM.out,pO.out,vL.out]);obtain ⟨W5,rfl⟩: ∃W,W=w7:=⟨_,rfl⟩;have h63:=HK.out.le;go_wp2;go_loopw [83] (λi wr=> ∃k:Nat,k<=m/\i=.int .i64 k/\(List.zip is os).any (mW cols ocols)=((List.zip is os).drop k).any (mW cols ocols)/\Below W5.heap.size W5 wr) (λi _=>m-(RowKit.intOf i).toNat)
     case atStart=>exact ⟨0,Nat.zero_le _,rfl,rfl,Below.refl _ _⟩
     case round=>
      obtain ⟨k,hk,rfl,heq,hb⟩:=hrel;have HE:=hide heq;clear heq;have HN:=hide (HN.out.below hb);have HC:=hide (HC.out.below hb);have HO:=hide (HO.out.below hb);have HK:=hide (HK.out.below hb);have vK:=hide (vK.out.below hb);obtain ⟨g0,g1,g2,g3,g4,g5,g6,g7,g8,g9,g10,g11,g12,g13,LR⟩:=dR hb LR g0 g1 g2 g3 g4 g5 g6 g7 g8 g9 g10 g11 g12 g13;have fO:=hide hb;clear hb;clear g0 g1 g2 g3 g4 g5 g6 g7 g8 g9 g10 g11 g12 g13;by_cases hlt:k<m
      ·obtain ⟨b,off,j1,uT,hBb,HX,e0,_⟩:=HK.out.int hlt
       first|(subst uT)|(injection uT with uT;injection uT with hA5 hA6;subst hA5;subst hA6)
       obtain ⟨b2,KU,j2,rfl,Hm,HY,f0,_⟩:=vK.out.int hlt;have hr1:=HR1.out (by first|rfl|trivial) j1 (aH HX.out);have hr2:=HR2.out (by first|rfl|trivial) j2 (aH HY.out);rw[Gm.out]at hr1;rw[oG.out]at hr2;obtain ⟨i1,rfl⟩: ∃i:Nat,j1=(i:Int):=⟨j1.toNat,by omega⟩;obtain ⟨i2,rfl⟩: ∃i:Nat,j2=(i:Int):=⟨j2.toNat,by omega⟩;obtain ⟨b3,D5,y1,hA1,Nt,HZ1,_,p1,_,_⟩:=HC.out.col (k:=i1) (by omega)
       first|(subst hA1)|(injection hA1 with hA1;injection hA1 with hA7 hA8;subst hA7;subst hA8)
       obtain ⟨b4,Om,y2,rfl,Nu,HZ2,_,q1,_,_⟩:=HO.out.col (k:=i2) (by omega);have EF:Hid ((List.zip is os).drop k=((i1:Int),(i2:Int)) :: (List.zip is os).drop (k+1)):=hide (by
        rw[List.zip,List.drop_zipWith,HX.out,HY.out,List.zipWith_cons_cons,List.drop_zipWith])
       have pI:Hid (mW cols ocols ((i1:Int),(i2:Int))=(y1.kind != y2.kind)):=hide (by
        rw[mW];simp only[Int.toNat_natCast];rw[eT HZ1.out,eT HZ2.out])
       have k0:(0:Int)<=(k:Int):=by omega
       have k1:(k:Int)<(m:Int):=by omega
       have WP:(0:Int)<=(i1:Int):=by omega
       have i11:(i1:Int)<(n1:Int):=hr1.2;have i20:(0:Int)<=(i2:Int):=by omega
       have i21:(i2:Int)<(n2:Int):=hr2.2;have jk:=hide fO.out;have oD:=hide (aa qO.out fO.out);clear hr1 hr2 HZ1 HZ2 HX HY;obtain ⟨k3,hk3⟩: ∃q,y1.kind=q:=⟨_,rfl⟩;obtain ⟨k4,hk4⟩: ∃q,y2.kind=q:=⟨_,rfl⟩;rw[hk3]at p1 pI;rw[hk4]at q1 pI;clear hk3 hk4;go_wp2;go_quiet (fail);by_cases hq:k3=k4
       ·subst hq;have HN:Hid ((List.zip is os).any (mW cols ocols)=((List.zip is os).drop (k+1)).any (mW cols ocols)):=hide (by rw[HE.out,EF.out,List.any_cons,pI.out];simp);go_wp2;all_goals (try (exfalso;go_light;simp_all;done));go_roundw
        case rel=>exact ⟨k+1,by omega,by go_num,HN.out,below_drewN jk.out _⟩
        case measure=>simp[RowKit.intOf];omega
       ·have hq2:(k3 != k4)=true:=by simpa using hq
        obtain rfl:R=7:=by rw[HD2.out,HE.out,EF.out,List.any_cons,pI.out,hq2];simp
        go_wp2;all_goals (try (exfalso;go_light;simp_all;done));go_ret;exact ⟨rfl,below_drewN oD.out _⟩
      ·obtain rfl:R=0:=by rw[HD2.out,HE.out,List.drop_eq_nil_of_le (by rw[List.length_zip,HM.out,vL.out];omega)];rfl
       have oD:=hide (aa qO.out fO.out);go_wp2;all_goals (try (exfalso;go_light;simp_all;done));go_ret;exact ⟨rfl,oD.out⟩
    ·have q5:((m:Int) != (m2:Int))=true:=by simp;omega
     obtain rfl:R=8:=by rw[HD.out,bQ];simp[HM.out,pO.out,vL.out,hmm]
     go_wp2;all_goals (try (exfalso;go_light;simp_all;done));go_ret;exact ⟨rfl,qO.out⟩
   ·have q4:(oe != 0)=true:=by simpa using hoe
    obtain rfl:R=oe:=by rw[HD.out,bQ];simp[HM.out,pO.out,hoe]
    go_wp2;all_goals (try (exfalso;go_light;simp_all;done));go_ret;exact ⟨rfl,qO.out⟩
  ·have q3:(CE != 0)=true:=by simpa using hce
   obtain rfl:R=CE:=by rw[HD.out,bQ];simp[HM.out,pO.out,hce]
   go_wp2;all_goals (try (exfalso;go_light;simp_all;done));go_ret;exact ⟨rfl,gZ.out⟩
end Go.Proofs.YtopjjlmfilgngaaGreatDoor
