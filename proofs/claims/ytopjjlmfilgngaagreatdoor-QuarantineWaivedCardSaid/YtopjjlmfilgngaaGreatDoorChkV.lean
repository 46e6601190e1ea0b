/-
  check.checkColumns.
-/
import Derived.Test.YtopjjlmfilgngaaGreatDoorGaq
namespace Go.Proofs.YtopjjlmfilgngaaGreatDoor
set_option maxHeartbeats 4000000
set_option maxRecDepth 100000
open Go.RowKit
set_option linter.unusedSimpArgs false
set_option linter.unusedVariables false
def rF (cols ocols:List Col)(p:Int×Int):Bool:=(cols.getD p.1.toNat default).kind != (ocols.getD p.2.toNat default).kind
def cu (sg U:Bool)(ie:Int)(is:List Int)(k0 ce oe:Int)(os:List Int)(df:Bool):Int:=
 if ie≠0 then ie else if is.length=0\/(sg=true/\1<is.length) then 8 else if sg=true/\k0≠2 then 7 else if U=false then 0
 else if ce≠0 then ce else if oe≠0 then oe else if is.length≠os.length then 8 else if df=true then 7 else 0
theorem xx (c:Chk)(cols ocols:List Col):iN c cols ocols=
  cu (c.kind==2 || c.kind==6) (kg c.kind) (aR cols c.cols).1 (aR cols c.cols).2 (cols.getD ((aR cols c.cols).2.getD 0 0).toNat default).kind (ax ocols) (aR ocols c.ocols).1 (aR ocols c.ocols).2 ((List.zip (aR cols c.cols).2 (aR ocols c.ocols).2).any (rF cols ocols)):=by
 simp only[iN,cu,Bool.or_eq_true,beq_iff_eq];rfl
theorem vQ {cols:List Col}{names:List ByteArray}(h:(aR cols names).1=0): ∀y∈(aR cols names).2,0<=y/\y<(cols.length:Int):=λy hy=>by
 obtain ⟨h1,h2,_⟩:=mZ h;rw[h1]at hy;obtain ⟨s,hs,rfl⟩:=List.mem_map.1 hy;exact h2 s hs
theorem gG {α:Type}{xs:List α}{k:Nat}{x d:α}{l:List α}(h:xs.drop k=x :: l):xs.getD k d=x:=by
 rw[List.getD_eq_getElem?_getD,(bJ h).1];rfl
theorem nT (w:World)(x:Chk)(A:Option Addr)(n c:Nat)(hn:In w A n c x.cols)(A':Option Addr)(n' c':Nat)(hn':In w A' n' c' x.ocols)(bN:Option Addr)(n'' c'':Nat)(A1:Option Addr)(n1 c1:Nat)(cols:List Col)(hc:In w A1 n1 c1 cols)(A2:Option Addr)(n2 c2:Nat)(ocols:List Col)(ho:In w A2 n2 c2 ocols)(hb0:n<=4096)(hb1:n'<=4096)(hb2:n1<=4096)(hb3:n2<=4096):
  Calls Tryz.prog 145 #[.agg (aL x A n c A' n' c' bN n'' c'').toArray,.slice A1 n1 c1,.slice A2 n2 c2] w λe w'=>e=.returned (.int .i64 (iN x cols ocols))/\Below w.heap.size w w':=by
 have HD:=hide (xx x cols ocols);have HI1:=hide λW hx hy=>kM W A1 n1 c1 cols hx A n c x.cols hy (by omega) (by omega);have HI2:=hide λW hx hy=>kM W A2 n2 c2 ocols hx A' n' c' x.ocols hy (by omega) (by omega);have HR1:=hide (λh=>vQ (cols:=cols) (names:=x.cols) h);have HR2:=hide (λh=>vQ (cols:=ocols) (names:=x.ocols) h);have Hd:=hide (Nat.le_trans (qC cols x.cols) (by rw[hn.len];exact hb0));have He:=hide (Nat.le_trans (qC ocols x.ocols) (by rw[hn'.len];exact hb1));have ET:=hide hc.len;have yu:=hide ho.len;obtain ⟨R,hR⟩: ∃R,iN x cols ocols=R:=⟨_,rfl⟩;obtain ⟨I1,hI1⟩: ∃I,aR cols x.cols=I:=⟨_,rfl⟩;obtain ⟨I2,hI2⟩: ∃I,aR ocols x.ocols=I:=⟨_,rfl⟩;obtain ⟨U,hU⟩: ∃U,kg x.kind=U:=⟨_,rfl⟩;rw[hR,hI1,hI2,hU]at HD;rw[hI1]at HI1 HR1 Hd;rw[hI2]at HI2 HR2 He;rw[hR];have HU:=hide hU;clear hR hI1 hI2 hU;obtain ⟨ie,is⟩:=I1;obtain ⟨oe,os⟩:=I2;simp only at HD HI1 HI2 HR1 HR2 Hd He;obtain ⟨K0,Lp⟩: ∃K,(cols.getD (is.getD 0 0).toNat default).kind=K:=⟨_,rfl⟩;rw[Lp]at HD;have Km:=hide Lp;clear Lp;obtain ⟨CE,F9⟩: ∃CE,ax ocols=CE:=⟨_,rfl⟩;rw[F9]at HD;have Gp:=hide F9;obtain ⟨sg,hsg⟩: ∃s,(x.kind==2 || x.kind==6)=s:=⟨_,rfl⟩;rw[hsg]at HD;clear F9;have hk:((x.kind==2)=true/\sg=true)\/((x.kind==2)=false/\(x.kind==6)=true/\sg=true)\/((x.kind==2)=false/\(x.kind==6)=false/\sg=false):=by
  cases h1:(x.kind==2) <;> cases h2:(x.kind==6) <;> simp[h1,h2]at hsg <;> simp[hsg]
 clear hsg;simp only[aL];rcases hk with ⟨h2,rfl⟩|⟨h2,h6,rfl⟩|⟨h2,h6,rfl⟩
 ·go_enter Tryz.func145,Tryz.ntmps145;have HN:=hide hn;clear hn;have fM:=hide hn';clear hn';have HC:=hide hc;clear hc;have HO:=hide ho;clear ho;go_wp2_with fail;obtain ⟨W1,hW1⟩: ∃W,W=w.alloc (.cells #[.string x.name,.string x.table,.int .i64 x.kind,.slice A n c,.string x.other,.slice A' n' c',.int .i64 x.low,.int .i64 x.high,.slice bN n'' c'',.int .i64 x.ln,.int .i64 x.ld,.int .i64 x.mn,.int .i64 x.md,.int .i64 x.policy] 48):=⟨_,rfl⟩;obtain ⟨hbW1,fA,g0,g1,g2,g3,g4,g5,g6,g7,g8,g9,g10,g11,g12,g13⟩:=bV hW1 rfl;rw[<-hW1];clear hW1;have HN:=hide (HN.out.below hbW1);have fM:=hide (fM.out.below hbW1);have HC:=hide (HC.out.below hbW1);have HO:=hide (HO.out.below hbW1);have jH:=hide hbW1;clear hbW1;have LR:=lt_of_cell g0;go_wp2_with fail;refine (HI1.out _ (by exact HC.out) (by exact HN.out)).mono ?_;rintro e w1 ⟨⟨v,rfl,hov⟩,hb1⟩;obtain ⟨A4,c4,rfl⟩:=hov.form;obtain ⟨m,hm⟩: ∃m,is.length=m:=⟨_,rfl⟩;have vN:=iH hov rfl;rw[hm]at vN⊢;have HM:=hide hm;clear hov hm;have HN:=hide (HN.out.below hb1);have fM:=hide (fM.out.below hb1);have HC:=hide (HC.out.below hb1);have HO:=hide (HO.out.below hb1);obtain ⟨g0,g1,g2,g3,g4,g5,g6,g7,g8,g9,g10,g11,g12,g13,LR⟩:=ek hb1 LR g0 g1 g2 g3 g4 g5 g6 g7 g8 g9 g10 g11 g12 g13;have jg:=hide (aa jH.out hb1);clear hb1;have HK:=hide vN;clear vN;by_cases h0:ie=0;rotate_left
  ·have q0:(ie != 0)=true:=by simpa using h0
   obtain rfl:R=ie:=by rw[HD.out,cu,if_pos h0]
   go_wp2;all_goals (try (exfalso;go_light;simp_all;done));go_ret;exact ⟨rfl,jg.out⟩
  subst h0;by_cases hmz:m=0
  ·subst hmz;obtain rfl:R=8:=by rw[HD.out,cu];simp[HM.out]
   go_wp2;all_goals (try (exfalso;go_light;simp_all;done));go_ret;exact ⟨rfl,jg.out⟩
  have qz:((m:Int)==0)=false:=by simpa using hmz
  have tT:=hide hmz;by_cases hm1:1<m
  ·have q1:decide (1<(m:Int))=true:=by simp;omega
   obtain rfl:R=8:=by rw[HD.out,cu];simp[HM.out,hm1]
   go_wp2;all_goals (try (exfalso;go_light;simp_all;done));go_ret;exact ⟨rfl,jg.out⟩
  have q1:decide (1<(m:Int))=false:=by simp;omega
  have yT:=hide hm1;obtain ⟨b0,o0,j0,rfl,Lh,HX0,e0,_⟩:=HK.out.int (k:=0) (by omega);rw[Nat.add_zero]at e0;have hr0:=HR1.out (by first|rfl|trivial) j0 (aW HX0.out);rw[ET.out]at hr0;obtain ⟨i0,rfl⟩: ∃i:Nat,j0=(i:Int):=⟨j0.toNat,by omega⟩;obtain ⟨bc,oc,y0,rfl,Li,HZ0,_,p0,_,_⟩:=HC.out.col (k:=i0) (by omega);have Pm:(0:Int)<=(i0:Int):=by omega
  have Pn:(i0:Int)<(n1:Int):=hr0.2;have PD:(0:Int)<(m:Int):=by omega
  obtain ⟨k5,hk5⟩: ∃q,y0.kind=q:=⟨_,rfl⟩;have e5:K0=k5:=by
   rw[<-Km.out,gG HX0.out,<-hk5];simp only[Int.toNat_natCast];rw[gG HZ0.out]
  rw[hk5]at p0;subst e5;clear hk5 hr0 HX0 HZ0;by_cases hk2:K0=2;rotate_left
  ·have q2:(K0 != 2)=true:=by simpa using hk2
   obtain rfl:R=7:=by rw[HD.out,cu];simp[HM.out,tT.out,yT.out,hk2]
   go_wp2;all_goals (try (exfalso;go_light;simp_all;done));go_ret;exact ⟨rfl,jg.out⟩
  subst hk2;have q2:((2:Int) != 2)=false:=by decide
  go_wp2_with fail;refine (lF _ x.kind).mono ?_;rintro e w3 ⟨rfl,hb3⟩;have HN:=hide (HN.out.below hb3);have fM:=hide (fM.out.below hb3);have HC:=hide (HC.out.below hb3);have HO:=hide (HO.out.below hb3);have HK:=hide (HK.out.below hb3);obtain ⟨g0,g1,g2,g3,g4,g5,g6,g7,g8,g9,g10,g11,g12,g13,LR⟩:=ek hb3 LR g0 g1 g2 g3 g4 g5 g6 g7 g8 g9 g10 g11 g12 g13;have xg:=hide (aa jg.out hb3);clear hb3;rw[HU.out];cases U
  ·obtain rfl:R=0:=by rw[HD.out,cu];simp[HM.out,tT.out,yT.out]
   go_wp2;all_goals (try (exfalso;go_light;simp_all;done));go_ret;exact ⟨rfl,xg.out⟩
  go_wp2_with fail;refine (jk _ A2 n2 c2 ocols HO.out).mono ?_;rintro e w5 ⟨rfl,hb5⟩;have HN:=hide (HN.out.below hb5);have fM:=hide (fM.out.below hb5);have HC:=hide (HC.out.below hb5);have HO:=hide (HO.out.below hb5);have HK:=hide (HK.out.below hb5);obtain ⟨g0,g1,g2,g3,g4,g5,g6,g7,g8,g9,g10,g11,g12,g13,LR⟩:=ek hb5 LR g0 g1 g2 g3 g4 g5 g6 g7 g8 g9 g10 g11 g12 g13;have AZ:=hide (aa xg.out hb5);clear hb5;rw[Gp.out];by_cases hce:CE=0
  ·subst hce;go_wp2_with fail;refine (HI2.out _ (by exact HO.out) (by exact fM.out)).mono ?_;rintro e w7 ⟨⟨v2,rfl,qx⟩,mh⟩;obtain ⟨A5,c5,rfl⟩:=qx.form;obtain ⟨m2,hm2⟩: ∃m,os.length=m:=⟨_,rfl⟩;have BZ:=iH qx rfl;rw[hm2]at BZ⊢;have wS:=hide hm2;clear qx hm2;have HN:=hide (HN.out.below mh);have HC:=hide (HC.out.below mh);have HO:=hide (HO.out.below mh);have HK:=hide (HK.out.below mh);obtain ⟨g0,g1,g2,g3,g4,g5,g6,g7,g8,g9,g10,g11,g12,g13,LR⟩:=ek mh LR g0 g1 g2 g3 g4 g5 g6 g7 g8 g9 g10 g11 g12 g13;have kw:=hide (aa AZ.out mh);clear mh;have wR:=hide BZ;clear BZ;by_cases hoe:oe=0
   ·subst hoe;by_cases hmm:m=m2
    ·subst hmm;have HD2:Hid (R=if (List.zip is os).any (rF cols ocols)=true then 7 else 0):=hide (by rw[HD.out,cu];simp[HM.out,tT.out,yT.out,wS.out]);obtain ⟨W5,rfl⟩: ∃W,W=w7:=⟨_,rfl⟩;have h63:=HK.out.le;go_wp2;go_loopw [83] (λi wr=> ∃k:Nat,k<=m/\i=.int .i64 k/\(List.zip is os).any (rF cols ocols)=((List.zip is os).drop k).any (rF cols ocols)/\Below W5.heap.size W5 wr) (λi _=>m-(RowKit.intOf i).toNat)
     case atStart=>exact ⟨0,Nat.zero_le _,rfl,rfl,Below.refl _ _⟩
     case round=>
      obtain ⟨k,hk,rfl,heq,hb⟩:=hrel;have HE:=hide heq;clear heq;have HN:=hide (HN.out.below hb);have HC:=hide (HC.out.below hb);have HO:=hide (HO.out.below hb);have HK:=hide (HK.out.below hb);have wR:=hide (wR.out.below hb);obtain ⟨g0,g1,g2,g3,g4,g5,g6,g7,g8,g9,g10,g11,g12,g13,LR⟩:=ek hb LR g0 g1 g2 g3 g4 g5 g6 g7 g8 g9 g10 g11 g12 g13;have rD:=hide hb;clear hb;clear g0 g1 g2 g3 g4 g5 g6 g7 g8 g9 g10 g11 g12 g13;by_cases hlt:k<m
      ·obtain ⟨b,off,j1,yH,hBb,HX,e0,_⟩:=HK.out.int hlt
       first|(subst yH)|(injection yH with yH;injection yH with hA5 hA6;subst hA5;subst hA6)
       obtain ⟨b2,Gg,j2,rfl,F8,HY,f0,_⟩:=wR.out.int hlt;have hr1:=HR1.out (by first|rfl|trivial) j1 (aW HX.out);have hr2:=HR2.out (by first|rfl|trivial) j2 (aW HY.out);rw[ET.out]at hr1;rw[yu.out]at hr2;obtain ⟨i1,rfl⟩: ∃i:Nat,j1=(i:Int):=⟨j1.toNat,by omega⟩;obtain ⟨i2,rfl⟩: ∃i:Nat,j2=(i:Int):=⟨j2.toNat,by omega⟩;obtain ⟨b3,EJ,y1,hA1,Iz,HZ1,_,p1,_,_⟩:=HC.out.col (k:=i1) (by omega)
       first|(subst hA1)|(injection hA1 with hA1;injection hA1 with hA7 hA8;subst hA7;subst hA8)
       obtain ⟨b4,Jj,y2,rfl,IC,HZ2,_,q1,_,_⟩:=HO.out.col (k:=i2) (by omega);have EY:Hid ((List.zip is os).drop k=((i1:Int),(i2:Int)) :: (List.zip is os).drop (k+1)):=hide (by
        rw[List.zip,List.drop_zipWith,HX.out,HY.out,List.zipWith_cons_cons,List.drop_zipWith])
       have pg:Hid (rF cols ocols ((i1:Int),(i2:Int))=(y1.kind != y2.kind)):=hide (by
        rw[rF];simp only[Int.toNat_natCast];rw[gG HZ1.out,gG HZ2.out])
       have k0:(0:Int)<=(k:Int):=by omega
       have k1:(k:Int)<(m:Int):=by omega
       have Nv:(0:Int)<=(i1:Int):=by omega
       have i11:(i1:Int)<(n1:Int):=hr1.2;have i20:(0:Int)<=(i2:Int):=by omega
       have i21:(i2:Int)<(n2:Int):=hr2.2;have l6:=hide rD.out;have iK:=hide (aa kw.out rD.out);clear hr1 hr2 HZ1 HZ2 HX HY;obtain ⟨k3,hk3⟩: ∃q,y1.kind=q:=⟨_,rfl⟩;obtain ⟨k4,hk4⟩: ∃q,y2.kind=q:=⟨_,rfl⟩;rw[hk3]at p1 pg;rw[hk4]at q1 pg;clear hk3 hk4;go_wp2;go_quiet (fail);by_cases hq:k3=k4
       ·subst hq;have HN:Hid ((List.zip is os).any (rF cols ocols)=((List.zip is os).drop (k+1)).any (rF cols ocols)):=hide (by rw[HE.out,EY.out,List.any_cons,pg.out];simp);go_wp2;all_goals (try (exfalso;go_light;simp_all;done));go_roundw
        case rel=>exact ⟨k+1,by omega,by go_num,HN.out,below_drewN l6.out _⟩
        case measure=>simp[RowKit.intOf];omega
       ·have hq2:(k3 != k4)=true:=by simpa using hq
        obtain rfl:R=7:=by rw[HD2.out,HE.out,EY.out,List.any_cons,pg.out,hq2];simp
        go_wp2;all_goals (try (exfalso;go_light;simp_all;done));go_ret;exact ⟨rfl,below_drewN iK.out _⟩
      ·obtain rfl:R=0:=by rw[HD2.out,HE.out,List.drop_eq_nil_of_le (by rw[List.length_zip,HM.out,wS.out];omega)];rfl
       have iK:=hide (aa kw.out rD.out);go_wp2;all_goals (try (exfalso;go_light;simp_all;done));go_ret;exact ⟨rfl,iK.out⟩
    ·have q5:((m:Int) != (m2:Int))=true:=by simp;omega
     obtain rfl:R=8:=by rw[HD.out,cu];simp[HM.out,tT.out,yT.out,wS.out,hmm]
     go_wp2;all_goals (try (exfalso;go_light;simp_all;done));go_ret;exact ⟨rfl,kw.out⟩
   ·have q4:(oe != 0)=true:=by simpa using hoe
    obtain rfl:R=oe:=by rw[HD.out,cu];simp[HM.out,tT.out,yT.out,hoe]
    go_wp2;all_goals (try (exfalso;go_light;simp_all;done));go_ret;exact ⟨rfl,kw.out⟩
  ·have q3:(CE != 0)=true:=by simpa using hce
   obtain rfl:R=CE:=by rw[HD.out,cu];simp[HM.out,tT.out,yT.out,hce]
   go_wp2;all_goals (try (exfalso;go_light;simp_all;done));go_ret;exact ⟨rfl,AZ.out⟩
 ·go_enter Tryz.func145,Tryz.ntmps145;have HN:=hide hn;clear hn;have fM:=hide hn';clear hn';have HC:=hide hc;clear hc;have HO:=hide ho;clear ho;go_wp2_with fail;obtain ⟨W1,hW1⟩: ∃W,W=w.alloc (.cells #[.string x.name,.string x.table,.int .i64 x.kind,.slice A n c,.string x.other,.slice A' n' c',.int .i64 x.low,.int .i64 x.high,.slice bN n'' c'',.int .i64 x.ln,.int .i64 x.ld,.int .i64 x.mn,.int .i64 x.md,.int .i64 x.policy] 48):=⟨_,rfl⟩;obtain ⟨hbW1,fA,g0,g1,g2,g3,g4,g5,g6,g7,g8,g9,g10,g11,g12,g13⟩:=bV hW1 rfl;rw[<-hW1];clear hW1;have HN:=hide (HN.out.below hbW1);have fM:=hide (fM.out.below hbW1);have HC:=hide (HC.out.below hbW1);have HO:=hide (HO.out.below hbW1);have JP:=hide hbW1;clear hbW1;have LR:=lt_of_cell g0;go_wp2_with fail;refine (HI1.out _ (by exact HC.out) (by exact HN.out)).mono ?_;rintro e w1 ⟨⟨v,rfl,hov⟩,hb1⟩;obtain ⟨A4,c4,rfl⟩:=hov.form;obtain ⟨m,hm⟩: ∃m,is.length=m:=⟨_,rfl⟩;have vN:=iH hov rfl;rw[hm]at vN⊢;have HM:=hide hm;clear hov hm;have HN:=hide (HN.out.below hb1);have fM:=hide (fM.out.below hb1);have HC:=hide (HC.out.below hb1);have HO:=hide (HO.out.below hb1);obtain ⟨g0,g1,g2,g3,g4,g5,g6,g7,g8,g9,g10,g11,g12,g13,LR⟩:=ek hb1 LR g0 g1 g2 g3 g4 g5 g6 g7 g8 g9 g10 g11 g12 g13;have dH:=hide (aa JP.out hb1);clear hb1;have HK:=hide vN;clear vN;by_cases h0:ie=0;rotate_left
  ·have q0:(ie != 0)=true:=by simpa using h0
   obtain rfl:R=ie:=by rw[HD.out,cu,if_pos h0]
   go_wp2;all_goals (try (exfalso;go_light;simp_all;done));go_ret;exact ⟨rfl,dH.out⟩
  subst h0;by_cases hmz:m=0
  ·subst hmz;obtain rfl:R=8:=by rw[HD.out,cu];simp[HM.out]
   go_wp2;all_goals (try (exfalso;go_light;simp_all;done));go_ret;exact ⟨rfl,dH.out⟩
  have qz:((m:Int)==0)=false:=by simpa using hmz
  have tT:=hide hmz;by_cases hm1:1<m
  ·have q1:decide (1<(m:Int))=true:=by simp;omega
   obtain rfl:R=8:=by rw[HD.out,cu];simp[HM.out,hm1]
   go_wp2;all_goals (try (exfalso;go_light;simp_all;done));go_ret;exact ⟨rfl,dH.out⟩
  have q1:decide (1<(m:Int))=false:=by simp;omega
  have yT:=hide hm1;obtain ⟨b0,o0,j0,rfl,Lh,HX0,e0,_⟩:=HK.out.int (k:=0) (by omega);rw[Nat.add_zero]at e0;have hr0:=HR1.out (by first|rfl|trivial) j0 (aW HX0.out);rw[ET.out]at hr0;obtain ⟨i0,rfl⟩: ∃i:Nat,j0=(i:Int):=⟨j0.toNat,by omega⟩;obtain ⟨bc,oc,y0,rfl,Li,HZ0,_,p0,_,_⟩:=HC.out.col (k:=i0) (by omega);have Pm:(0:Int)<=(i0:Int):=by omega
  have Pn:(i0:Int)<(n1:Int):=hr0.2;have PD:(0:Int)<(m:Int):=by omega
  obtain ⟨k5,hk5⟩: ∃q,y0.kind=q:=⟨_,rfl⟩;have e5:K0=k5:=by
   rw[<-Km.out,gG HX0.out,<-hk5];simp only[Int.toNat_natCast];rw[gG HZ0.out]
  rw[hk5]at p0;subst e5;clear hk5 hr0 HX0 HZ0;by_cases hk2:K0=2;rotate_left
  ·have q2:(K0 != 2)=true:=by simpa using hk2
   obtain rfl:R=7:=by rw[HD.out,cu];simp[HM.out,tT.out,yT.out,hk2]
   go_wp2;all_goals (try (exfalso;go_light;simp_all;done));go_ret;exact ⟨rfl,dH.out⟩
  subst hk2;have q2:((2:Int) != 2)=false:=by decide
  go_wp2_with fail;refine (lF _ x.kind).mono ?_;rintro e Pw ⟨rfl,qp⟩;have HN:=hide (HN.out.below qp);have fM:=hide (fM.out.below qp);have HC:=hide (HC.out.below qp);have HO:=hide (HO.out.below qp);have HK:=hide (HK.out.below qp);obtain ⟨g0,g1,g2,g3,g4,g5,g6,g7,g8,g9,g10,g11,g12,g13,LR⟩:=ek qp LR g0 g1 g2 g3 g4 g5 g6 g7 g8 g9 g10 g11 g12 g13;have kz:=hide (aa dH.out qp);clear qp;rw[HU.out];cases U
  ·obtain rfl:R=0:=by rw[HD.out,cu];simp[HM.out,tT.out,yT.out]
   go_wp2;all_goals (try (exfalso;go_light;simp_all;done));go_ret;exact ⟨rfl,kz.out⟩
  go_wp2_with fail;refine (jk _ A2 n2 c2 ocols HO.out).mono ?_;rintro e Px ⟨rfl,qw⟩;have HN:=hide (HN.out.below qw);have fM:=hide (fM.out.below qw);have HC:=hide (HC.out.below qw);have HO:=hide (HO.out.below qw);have HK:=hide (HK.out.below qw);obtain ⟨g0,g1,g2,g3,g4,g5,g6,g7,g8,g9,g10,g11,g12,g13,LR⟩:=ek qw LR g0 g1 g2 g3 g4 g5 g6 g7 g8 g9 g10 g11 g12 g13;have uV:=hide (aa kz.out qw);clear qw;rw[Gp.out];by_cases hce:CE=0
  ·subst hce;go_wp2_with fail;refine (HI2.out _ (by exact HO.out) (by exact fM.out)).mono ?_;rintro e w7 ⟨⟨v2,rfl,qx⟩,mh⟩;obtain ⟨A5,c5,rfl⟩:=qx.form;obtain ⟨m2,hm2⟩: ∃m,os.length=m:=⟨_,rfl⟩;have BZ:=iH qx rfl;rw[hm2]at BZ⊢;have wS:=hide hm2;clear qx hm2;have HN:=hide (HN.out.below mh);have HC:=hide (HC.out.below mh);have HO:=hide (HO.out.below mh);have HK:=hide (HK.out.below mh);obtain ⟨g0,g1,g2,g3,g4,g5,g6,g7,g8,g9,g10,g11,g12,g13,LR⟩:=ek mh LR g0 g1 g2 g3 g4 g5 g6 g7 g8 g9 g10 g11 g12 g13;have kv:=hide (aa uV.out mh);clear mh;have wR:=hide BZ;clear BZ;by_cases hoe:oe=0
   ·subst hoe;by_cases hmm:m=m2
    ·subst hmm;have HD2:Hid (R=if (List.zip is os).any (rF cols ocols)=true then 7 else 0):=hide (by rw[HD.out,cu];simp[HM.out,tT.out,yT.out,wS.out]);obtain ⟨W5,rfl⟩: ∃W,W=w7:=⟨_,rfl⟩;have h63:=HK.out.le;go_wp2;go_loopw [83] (λi wr=> ∃k:Nat,k<=m/\i=.int .i64 k/\(List.zip is os).any (rF cols ocols)=((List.zip is os).drop k).any (rF cols ocols)/\Below W5.heap.size W5 wr) (λi _=>m-(RowKit.intOf i).toNat)
     case atStart=>exact ⟨0,Nat.zero_le _,rfl,rfl,Below.refl _ _⟩
     case round=>
      obtain ⟨k,hk,rfl,heq,hb⟩:=hrel;have HE:=hide heq;clear heq;have HN:=hide (HN.out.below hb);have HC:=hide (HC.out.below hb);have HO:=hide (HO.out.below hb);have HK:=hide (HK.out.below hb);have wR:=hide (wR.out.below hb);obtain ⟨g0,g1,g2,g3,g4,g5,g6,g7,g8,g9,g10,g11,g12,g13,LR⟩:=ek hb LR g0 g1 g2 g3 g4 g5 g6 g7 g8 g9 g10 g11 g12 g13;have mJ:=hide hb;clear hb;clear g0 g1 g2 g3 g4 g5 g6 g7 g8 g9 g10 g11 g12 g13;by_cases hlt:k<m
      ·obtain ⟨b,off,j1,yH,hBb,HX,e0,_⟩:=HK.out.int hlt
       first|(subst yH)|(injection yH with yH;injection yH with hA5 hA6;subst hA5;subst hA6)
       obtain ⟨b2,Gg,j2,rfl,F8,HY,f0,_⟩:=wR.out.int hlt;have hr1:=HR1.out (by first|rfl|trivial) j1 (aW HX.out);have hr2:=HR2.out (by first|rfl|trivial) j2 (aW HY.out);rw[ET.out]at hr1;rw[yu.out]at hr2;obtain ⟨i1,rfl⟩: ∃i:Nat,j1=(i:Int):=⟨j1.toNat,by omega⟩;obtain ⟨i2,rfl⟩: ∃i:Nat,j2=(i:Int):=⟨j2.toNat,by omega⟩;obtain ⟨b3,EJ,y1,hA1,Iz,HZ1,_,p1,_,_⟩:=HC.out.col (k:=i1) (by omega)
       first|(subst hA1)|(injection hA1 with hA1;injection hA1 with hA7 hA8;subst hA7;subst hA8)
       obtain ⟨b4,Jj,y2,rfl,IC,HZ2,_,q1,_,_⟩:=HO.out.col (k:=i2) (by omega);have EY:Hid ((List.zip is os).drop k=((i1:Int),(i2:Int)) :: (List.zip is os).drop (k+1)):=hide (by
        rw[List.zip,List.drop_zipWith,HX.out,HY.out,List.zipWith_cons_cons,List.drop_zipWith])
       have pg:Hid (rF cols ocols ((i1:Int),(i2:Int))=(y1.kind != y2.kind)):=hide (by
        rw[rF];simp only[Int.toNat_natCast];rw[gG HZ1.out,gG HZ2.out])
       have k0:(0:Int)<=(k:Int):=by omega
       have k1:(k:Int)<(m:Int):=by omega
       have Nv:(0:Int)<=(i1:Int):=by omega
       have i11:(i1:Int)<(n1:Int):=hr1.2;have i20:(0:Int)<=(i2:Int):=by omega
       have i21:(i2:Int)<(n2:Int):=hr2.2;have l6:=hide mJ.out;have iK:=hide (aa kv.out mJ.out);clear hr1 hr2 HZ1 HZ2 HX HY;obtain ⟨k3,hk3⟩: ∃q,y1.kind=q:=⟨_,rfl⟩;obtain ⟨k4,hk4⟩: ∃q,y2.kind=q:=⟨_,rfl⟩;rw[hk3]at p1 pg;rw[hk4]at q1 pg;clear hk3 hk4;go_wp2;go_quiet (fail);by_cases hq:k3=k4
       ·subst hq;have HN:Hid ((List.zip is os).any (rF cols ocols)=((List.zip is os).drop (k+1)).any (rF cols ocols)):=hide (by rw[HE.out,EY.out,List.any_cons,pg.out];simp);go_wp2;all_goals (try (exfalso;go_light;simp_all;done));go_roundw
        case rel=>exact ⟨k+1,by omega,by go_num,HN.out,below_drewN l6.out _⟩
        case measure=>simp[RowKit.intOf];omega
       ·have hq2:(k3 != k4)=true:=by simpa using hq
        obtain rfl:R=7:=by rw[HD2.out,HE.out,EY.out,List.any_cons,pg.out,hq2];simp
        go_wp2;all_goals (try (exfalso;go_light;simp_all;done));go_ret;exact ⟨rfl,below_drewN iK.out _⟩
      ·obtain rfl:R=0:=by rw[HD2.out,HE.out,List.drop_eq_nil_of_le (by rw[List.length_zip,HM.out,wS.out];omega)];rfl
       have iK:=hide (aa kv.out mJ.out);go_wp2;all_goals (try (exfalso;go_light;simp_all;done));go_ret;exact ⟨rfl,iK.out⟩
    ·have q5:((m:Int) != (m2:Int))=true:=by simp;omega
     obtain rfl:R=8:=by rw[HD.out,cu];simp[HM.out,tT.out,yT.out,wS.out,hmm]
     go_wp2;all_goals (try (exfalso;go_light;simp_all;done));go_ret;exact ⟨rfl,kv.out⟩
   ·have q4:(oe != 0)=true:=by simpa using hoe
    obtain rfl:R=oe:=by rw[HD.out,cu];simp[HM.out,tT.out,yT.out,hoe]
    go_wp2;all_goals (try (exfalso;go_light;simp_all;done));go_ret;exact ⟨rfl,kv.out⟩
  ·have q3:(CE != 0)=true:=by simpa using hce
   obtain rfl:R=CE:=by rw[HD.out,cu];simp[HM.out,tT.out,yT.out,hce]
   go_wp2;all_goals (try (exfalso;go_light;simp_all;done));go_ret;exact ⟨rfl,uV.out⟩
 ·go_enter Tryz.func145,Tryz.ntmps145;have HN:=hide hn;clear hn;have fM:=hide hn';clear hn';have HC:=hide hc;clear hc;have HO:=hide ho;clear ho;go_wp2_with fail;obtain ⟨W1,hW1⟩: ∃W,W=w.alloc (.cells #[.string x.name,.string x.table,.int .i64 x.kind,.slice A n c,.string x.other,.slice A' n' c',.int .i64 x.low,.int .i64 x.high,.slice bN n'' c'',.int .i64 x.ln,.int .i64 x.ld,.int .i64 x.mn,.int .i64 x.md,.int .i64 x.policy] 48):=⟨_,rfl⟩;obtain ⟨hbW1,fA,g0,g1,g2,g3,g4,g5,g6,g7,g8,g9,g10,g11,g12,g13⟩:=bV hW1 rfl;rw[<-hW1];clear hW1;have HN:=hide (HN.out.below hbW1);have fM:=hide (fM.out.below hbW1);have HC:=hide (HC.out.below hbW1);have HO:=hide (HO.out.below hbW1);have jb:=hide hbW1;clear hbW1;have LR:=lt_of_cell g0;go_wp2_with fail;refine (HI1.out _ (by exact HC.out) (by exact HN.out)).mono ?_;rintro e w1 ⟨⟨v,rfl,hov⟩,hb1⟩;obtain ⟨A4,c4,rfl⟩:=hov.form;obtain ⟨m,hm⟩: ∃m,is.length=m:=⟨_,rfl⟩;have vN:=iH hov rfl;rw[hm]at vN⊢;have HM:=hide hm;clear hov hm;have HN:=hide (HN.out.below hb1);have fM:=hide (fM.out.below hb1);have HC:=hide (HC.out.below hb1);have HO:=hide (HO.out.below hb1);obtain ⟨g0,g1,g2,g3,g4,g5,g6,g7,g8,g9,g10,g11,g12,g13,LR⟩:=ek hb1 LR g0 g1 g2 g3 g4 g5 g6 g7 g8 g9 g10 g11 g12 g13;have uW:=hide (aa jb.out hb1);clear hb1;have HK:=hide vN;clear vN;by_cases h0:ie=0;rotate_left
  ·have q0:(ie != 0)=true:=by simpa using h0
   obtain rfl:R=ie:=by rw[HD.out,cu,if_pos h0]
   go_wp2;all_goals (try (exfalso;go_light;simp_all;done));go_ret;exact ⟨rfl,uW.out⟩
  subst h0;by_cases hmz:m=0
  ·subst hmz;obtain rfl:R=8:=by rw[HD.out,cu];simp[HM.out]
   go_wp2;all_goals (try (exfalso;go_light;simp_all;done));go_ret;exact ⟨rfl,uW.out⟩
  have qz:((m:Int)==0)=false:=by simpa using hmz
  have tT:=hide hmz;go_wp2_with fail;refine (lF _ x.kind).mono ?_;rintro e P5 ⟨rfl,vJ⟩;have HN:=hide (HN.out.below vJ);have fM:=hide (fM.out.below vJ);have HC:=hide (HC.out.below vJ);have HO:=hide (HO.out.below vJ);have HK:=hide (HK.out.below vJ);obtain ⟨g0,g1,g2,g3,g4,g5,g6,g7,g8,g9,g10,g11,g12,g13,LR⟩:=ek vJ LR g0 g1 g2 g3 g4 g5 g6 g7 g8 g9 g10 g11 g12 g13;have jI:=hide (aa uW.out vJ);clear vJ;rw[HU.out];cases U
  ·obtain rfl:R=0:=by rw[HD.out,cu];simp[HM.out,tT.out]
   go_wp2;all_goals (try (exfalso;go_light;simp_all;done));go_ret;exact ⟨rfl,jI.out⟩
  go_wp2_with fail;refine (jk _ A2 n2 c2 ocols HO.out).mono ?_;rintro e P6 ⟨rfl,vL⟩;have HN:=hide (HN.out.below vL);have fM:=hide (fM.out.below vL);have HC:=hide (HC.out.below vL);have HO:=hide (HO.out.below vL);have HK:=hide (HK.out.below vL);obtain ⟨g0,g1,g2,g3,g4,g5,g6,g7,g8,g9,g10,g11,g12,g13,LR⟩:=ek vL LR g0 g1 g2 g3 g4 g5 g6 g7 g8 g9 g10 g11 g12 g13;have gI:=hide (aa jI.out vL);clear vL;rw[Gp.out];by_cases hce:CE=0
  ·subst hce;go_wp2_with fail;refine (HI2.out _ (by exact HO.out) (by exact fM.out)).mono ?_;rintro e w7 ⟨⟨v2,rfl,qx⟩,mh⟩;obtain ⟨A5,c5,rfl⟩:=qx.form;obtain ⟨m2,hm2⟩: ∃m,os.length=m:=⟨_,rfl⟩;have BZ:=iH qx rfl;rw[hm2]at BZ⊢;have wS:=hide hm2;clear qx hm2;have HN:=hide (HN.out.below mh);have HC:=hide (HC.out.below mh);have HO:=hide (HO.out.below mh);have HK:=hide (HK.out.below mh);obtain ⟨g0,g1,g2,g3,g4,g5,g6,g7,g8,g9,g10,g11,g12,g13,LR⟩:=ek mh LR g0 g1 g2 g3 g4 g5 g6 g7 g8 g9 g10 g11 g12 g13;have DC:=hide (aa gI.out mh);clear mh;have wR:=hide BZ;clear BZ;by_cases hoe:oe=0
   ·subst hoe;by_cases hmm:m=m2
    ·subst hmm;have HD2:Hid (R=if (List.zip is os).any (rF cols ocols)=true then 7 else 0):=hide (by rw[HD.out,cu];simp[HM.out,tT.out,wS.out]);obtain ⟨W5,rfl⟩: ∃W,W=w7:=⟨_,rfl⟩;have h63:=HK.out.le;go_wp2;go_loopw [83] (λi wr=> ∃k:Nat,k<=m/\i=.int .i64 k/\(List.zip is os).any (rF cols ocols)=((List.zip is os).drop k).any (rF cols ocols)/\Below W5.heap.size W5 wr) (λi _=>m-(RowKit.intOf i).toNat)
     case atStart=>exact ⟨0,Nat.zero_le _,rfl,rfl,Below.refl _ _⟩
     case round=>
      obtain ⟨k,hk,rfl,heq,hb⟩:=hrel;have HE:=hide heq;clear heq;have HN:=hide (HN.out.below hb);have HC:=hide (HC.out.below hb);have HO:=hide (HO.out.below hb);have HK:=hide (HK.out.below hb);have wR:=hide (wR.out.below hb);obtain ⟨g0,g1,g2,g3,g4,g5,g6,g7,g8,g9,g10,g11,g12,g13,LR⟩:=ek hb LR g0 g1 g2 g3 g4 g5 g6 g7 g8 g9 g10 g11 g12 g13;have fP:=hide hb;clear hb;clear g0 g1 g2 g3 g4 g5 g6 g7 g8 g9 g10 g11 g12 g13;by_cases hlt:k<m
      ·obtain ⟨b,off,j1,yH,hBb,HX,e0,_⟩:=HK.out.int hlt
       first|(subst yH)|(injection yH with yH;injection yH with hA5 hA6;subst hA5;subst hA6)
       obtain ⟨b2,Gg,j2,rfl,F8,HY,f0,_⟩:=wR.out.int hlt;have hr1:=HR1.out (by first|rfl|trivial) j1 (aW HX.out);have hr2:=HR2.out (by first|rfl|trivial) j2 (aW HY.out);rw[ET.out]at hr1;rw[yu.out]at hr2;obtain ⟨i1,rfl⟩: ∃i:Nat,j1=(i:Int):=⟨j1.toNat,by omega⟩;obtain ⟨i2,rfl⟩: ∃i:Nat,j2=(i:Int):=⟨j2.toNat,by omega⟩;obtain ⟨b3,EJ,y1,hA1,Iz,HZ1,_,p1,_,_⟩:=HC.out.col (k:=i1) (by omega)
       first|(subst hA1)|(injection hA1 with hA1;injection hA1 with hA7 hA8;subst hA7;subst hA8)
       obtain ⟨b4,Jj,y2,rfl,IC,HZ2,_,q1,_,_⟩:=HO.out.col (k:=i2) (by omega);have EY:Hid ((List.zip is os).drop k=((i1:Int),(i2:Int)) :: (List.zip is os).drop (k+1)):=hide (by
        rw[List.zip,List.drop_zipWith,HX.out,HY.out,List.zipWith_cons_cons,List.drop_zipWith])
       have pg:Hid (rF cols ocols ((i1:Int),(i2:Int))=(y1.kind != y2.kind)):=hide (by
        rw[rF];simp only[Int.toNat_natCast];rw[gG HZ1.out,gG HZ2.out])
       have k0:(0:Int)<=(k:Int):=by omega
       have k1:(k:Int)<(m:Int):=by omega
       have Nv:(0:Int)<=(i1:Int):=by omega
       have i11:(i1:Int)<(n1:Int):=hr1.2;have i20:(0:Int)<=(i2:Int):=by omega
       have i21:(i2:Int)<(n2:Int):=hr2.2;have l6:=hide fP.out;have iK:=hide (aa DC.out fP.out);clear hr1 hr2 HZ1 HZ2 HX HY;obtain ⟨k3,hk3⟩: ∃q,y1.kind=q:=⟨_,rfl⟩;obtain ⟨k4,hk4⟩: ∃q,y2.kind=q:=⟨_,rfl⟩;rw[hk3]at p1 pg;rw[hk4]at q1 pg;clear hk3 hk4;go_wp2;go_quiet (fail);by_cases hq:k3=k4
       ·subst hq;have HN:Hid ((List.zip is os).any (rF cols ocols)=((List.zip is os).drop (k+1)).any (rF cols ocols)):=hide (by rw[HE.out,EY.out,List.any_cons,pg.out];simp);go_wp2;all_goals (try (exfalso;go_light;simp_all;done));go_roundw
        case rel=>exact ⟨k+1,by omega,by go_num,HN.out,below_drewN l6.out _⟩
        case measure=>simp[RowKit.intOf];omega
       ·have hq2:(k3 != k4)=true:=by simpa using hq
        obtain rfl:R=7:=by rw[HD2.out,HE.out,EY.out,List.any_cons,pg.out,hq2];simp
        go_wp2;all_goals (try (exfalso;go_light;simp_all;done));go_ret;exact ⟨rfl,below_drewN iK.out _⟩
      ·obtain rfl:R=0:=by rw[HD2.out,HE.out,List.drop_eq_nil_of_le (by rw[List.length_zip,HM.out,wS.out];omega)];rfl
       have iK:=hide (aa DC.out fP.out);go_wp2;all_goals (try (exfalso;go_light;simp_all;done));go_ret;exact ⟨rfl,iK.out⟩
    ·have q5:((m:Int) != (m2:Int))=true:=by simp;omega
     obtain rfl:R=8:=by rw[HD.out,cu];simp[HM.out,tT.out,wS.out,hmm]
     go_wp2;all_goals (try (exfalso;go_light;simp_all;done));go_ret;exact ⟨rfl,DC.out⟩
   ·have q4:(oe != 0)=true:=by simpa using hoe
    obtain rfl:R=oe:=by rw[HD.out,cu];simp[HM.out,tT.out,hoe]
    go_wp2;all_goals (try (exfalso;go_light;simp_all;done));go_ret;exact ⟨rfl,DC.out⟩
  ·have q3:(CE != 0)=true:=by simpa using hce
   obtain rfl:R=CE:=by rw[HD.out,cu];simp[HM.out,tT.out,hce]
   go_wp2;all_goals (try (exfalso;go_light;simp_all;done));go_ret;exact ⟨rfl,gI.out⟩
end Go.Proofs.YtopjjlmfilgngaaGreatDoor
