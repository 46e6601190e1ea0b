/-
  warehouselaw30.QuarantineRejoins.
-/
import Derived.Test.YtopjjlmfilgngaaGreatDoorGay
import Derived.Test.YtopjjlmfilgngaaGreatDoorM30M
import Derived.Test.YtopjjlmfilgngaaGreatDoorGan
import Derived.Test.YtopjjlmfilgngaaGreatDoorGad
import Derived.Test.YtopjjlmfilgngaaGreatDoorGac
namespace Go.Proofs.YtopjjlmfilgngaaGreatDoor
set_option maxHeartbeats 8000000
set_option maxRecDepth 100000
open Go.RowKit Go.Maps
set_option linter.unusedSimpArgs false
set_option linter.unusedVariables false
theorem rej_norm {rows:List Ent}(hb:au rows=0)(ht:cO rows=true)(p:List Val->Bool)(nm:List Val->List ByteArray):Cr (rejL nR (rows.filter λx=>!p x.row) ((rows.filter λx=>p x.row).map λx=>⟨nR,x.row,x.count,nm x.row⟩))=(0,rows):=by
 rw[ug,rej_rows hb ht];intro x hx;have hm:x∈rows:=by
  rw[rejL]at hx;rcases List.mem_append.1 hx with h|h
  ·exact (List.mem_filter.1 h).1
  ·obtain ⟨q,hq,rfl⟩:=List.mem_map.1 h;obtain ⟨y,hy,rfl⟩:=List.mem_map.1 (List.mem_filter.1 hq).1;exact (List.mem_filter.1 hy).1
 exact (dM.1 hb).2.1 x hm |>.1
theorem lawRj30_any (w:World)(rel:ByteArray)(At:Option Addr)(nt ct:Nat)(tab:List Ent)(ht:In w At nt ct tab)(Ah:Option Addr)(nh ch:Nat)(held:List Quar)(hh:In w Ah nh ch held)(A:Option Addr)(n c:Nat)(l:List Int)(hl:In w A n c l)(A2:Option Addr)(n2 c2:Nat)(l2:List Int)(hl2:In w A2 n2 c2 l2)(hw:Words w):
  Calls Tryz.prog 6 #[.string rel,.slice At nt ct,.slice Ah nh ch,.slice A n c,.slice A2 n2 c2] w λe w'=>e=.returned (.bool true)/\Below w.heap.size w w':=by
 have h63:=hh.le;go_enter Tryz.func6,Tryz.ntmps6;have HT:=hide ht;clear ht;have HH:=hide hh;clear hh;have HL:=hide hl;clear hl;have HM:=hide hl2;clear hl2;have HW:=hide hw;clear hw;go_wp2_with fail;refine (within_any _ At nt ct tab HT.out 20).mono ?_;rintro e w1 ⟨⟨r,rfl,hr⟩,hb1⟩;have jv:=hide hb1;clear hb1;cases r
 ·go_wp2_with fail;refine (mf _ (HW.out.below jv.out)).mono ?_;rintro e w3 ⟨rfl,hb3⟩;have ED:=hide (aa jv.out hb3);clear hb3;have xO:=hide ED.out;go_wp2;go_ret;exact ⟨rfl,xO.out⟩
 obtain ⟨hnt,_⟩:=hr rfl;have hnt2:nt<=20:=by omega
 clear hr hnt;by_cases q1:20<nh
 ·have d1:(20:Int)<(nh:Int):=by omega
  go_wp2_with fail;refine (mf _ (HW.out.below jv.out)).mono ?_;rintro e w5 ⟨rfl,hb5⟩;have BU:=hide (aa jv.out hb5);clear hb5;have xO:=hide BU.out;go_wp2;go_ret;exact ⟨rfl,xO.out⟩
 have d1:¬(20:Int)<(nh:Int):=by omega
 by_cases q2:200<n
 ·have d2:(200:Int)<(n:Int):=by omega
  go_wp2_with fail;refine (mf _ (HW.out.below jv.out)).mono ?_;rintro e w7 ⟨rfl,j5⟩;have xK:=hide (aa jv.out j5);clear j5;have xO:=hide xK.out;go_wp2;go_ret;exact ⟨rfl,xO.out⟩
 have d2:¬(200:Int)<(n:Int):=by omega
 by_cases q3:60<n2
 ·have d3:(60:Int)<(n2:Int):=by omega
  go_wp2_with fail;refine (mf _ (HW.out.below jv.out)).mono ?_;rintro e w9 ⟨rfl,fo⟩;have dC:=hide (aa jv.out fo);clear fo;have xO:=hide dC.out;go_wp2;go_ret;exact ⟨rfl,xO.out⟩
 have d3:¬(60:Int)<(n2:Int):=by omega
 obtain ⟨Wk,Tk⟩: ∃W,W=w1:=⟨_,rfl⟩;have hht:=(HT.out.below jv.out);have hhh:=(HH.out.below jv.out);have hhl:=(HL.out.below jv.out);have hhm:=(HM.out.below jv.out);have hhw:=(HW.out.below jv.out);have hbb:=jv.out;rw[<-Tk]at hht hhh hhl hhm hhw hbb⊢;clear Tk;have Mc:=hide hbb;clear hbb;have HT:=hide hht;clear hht;have HH:=hide hhh;clear hhh;have HL:=hide hhl;clear hhl;have HM:=hide hhm;clear hhm;have HW:=hide hhw;clear hhw;go_wp2;go_loopw [11] (λi wr=> ∃k:Nat,k<=nh/\i=.int .i64 k/\wr=Wk) (λi _=>nh-(RowKit.intOf i).toNat)
 case atStart=>exact ⟨0,Nat.zero_le _,rfl,rfl⟩
 case round=>
  obtain ⟨k,hk,rfl,hwr⟩:=hrel;subst hwr;by_cases hlt:k<nh
  ·obtain ⟨bq,oq,y,rfl,hBb,JU,A4,n4,c4,A5,n5,c5,f0,f1,f2,f3,i1,i2,hs1,hs2⟩:=HH.out.quar hlt;have k0:(0:Int)<=(k:Int):=by omega
   have k1:(k:Int)<(nh:Int):=by omega
   by_cases q4:16<n4
   ·have d4:(16:Int)<(n4:Int):=by omega
    go_wp2_with fail;refine (mf _ HW.out).mono ?_;rintro e w9 ⟨rfl,fo⟩;have xO:=hide (aa Mc.out fo);go_wp2;go_ret;exact ⟨rfl,xO.out⟩
   ·have d4:¬(16:Int)<(n4:Int):=by omega
    go_wp2;go_roundw
    case rel=>exact ⟨k+1,by omega,by go_num,by first|trivial|rfl⟩
    case measure=>simp[RowKit.intOf];omega
  ·obtain rfl:k=nh:=by omega
   go_wp2_with fail;refine (rejoin_any _ rel At nt ct tab HT.out (by omega) Ah k ch held HH.out (by omega)).mono ?_;rintro e TV ⟨⟨v1,rfl,ho1⟩,og⟩;have jU:=hide og;clear og;obtain ⟨R1,hR1⟩: ∃q,Cr (rejL rel tab held)=q:=⟨_,rfl⟩;have HR1:=hide hR1;rw[hR1]at ho1⊢;clear hR1;obtain ⟨B1,e1,rfl,hi1⟩:=ho1.inn;obtain ⟨m1,hm1⟩: ∃m,R1.2.length=m:=⟨_,rfl⟩;rw[hm1]at hi1⊢;clear ho1 hm1;have I1:=hide hi1;clear hi1;go_wp2_with fail;refine (rejoin_ref _ rel At nt ct tab (HT.out.below jU.out) (by omega) Ah k ch held (HH.out.below jU.out) (by omega)).mono ?_;rintro e TW ⟨⟨B2,m2,e2,rfl,hi2⟩,oh⟩;have Ae:=hide oh;clear oh;rw[HR1.out]at hi2⊢;have I2:=hide hi2;clear hi2;go_wp2_with fail;have P8:=hide (aa jU.out Ae.out);refine (made30_any _ A n c l (HL.out.below P8.out) (by omega) A2 n2 c2 l2 (HM.out.below P8.out) (by omega)).mono ?_;rintro e PW ⟨⟨A1,A5,n5,c5,Ac,nc,cc,Ao,Aw,nw,cw,rows,orows,cs,ws,rfl,h1,h2,h3,h4,h5,h6,h7,h8,h9,h10,_⟩,qB⟩;have lL:=hide qB;clear qB;have J1:=hide h1;clear h1;have J2:=hide h2;clear h2;have J3:=hide h3;clear h3;have J4:=hide h4;clear h4;have J5:=hide h5;clear h5;have Nq:=hide (h6.tab (by simp[fA]));have U6:=hide (h7.tab (by simp[fA]));have HGOOD:=hide h8;obtain ⟨hbr,htr,_⟩:=aG Nq.out.2;have hrl:=(eB hbr htr).1;have hnc:nc<=4:=by rw[<-J3.out.len];exact h10
   have HRJ:=hide (λp nm=>rej_norm hbr htr p nm);have HDL:=hide (IR (ks:=[]) (ko:=[]) (ws:=ws) HGOOD.out Nq.out.2 U6.out.2);clear h6 h7 h8 h9 h10 hbr htr;obtain ⟨TT,hTT⟩: ∃T,rows.filter (λx=>!LF rows orows ws cs x.row)=T:=⟨_,rfl⟩;obtain ⟨QQ,hQQ⟩: ∃Q,((rows.filter λx=>LF rows orows ws cs x.row).map λx=>(⟨nR,x.row,x.count,MI rows orows ws cs x.row⟩:Quar))=Q:=⟨_,rfl⟩;have hRJ:Cr (rejL nR TT QQ)=(0,rows):=by rw[<-hTT,<-hQQ];exact HRJ.out _ _
   have hTl:TT.length<=4096:=by rw[<-hTT];exact Nat.le_trans (List.length_filter_le _ _) hrl
   have hQl:QQ.length<=4096:=by rw[<-hQQ,List.length_map];exact Nat.le_trans (List.length_filter_le _ _) hrl
   rw[hTT,hQQ]at HDL;have QB:=hide hRJ;have Kz:=hide λW (g1:In W A1 3 3 fA) (g2:In W A5 n5 c5 rows) (g3:In W Ac nc cc cs) (g4:In W Ao 1 1 [pV orows []]) (g5:In W Aw nw cw ws) (g6:Words W)=>yA W (rQ rows []) A1 3 3 g1 none 0 0 A5 n5 c5 g2 Ac nc cc cs g3 Ao 1 1 [pV orows []] g4 Aw nw cw ws g5 none 0 0 [] In.nil_ g6 (by omega) (by omega) (λc hc=>goodQ_len (HGOOD.out c hc)) (by simp[pV,fA]) mq.2.2.2.2.2.2.2.2.2.1;simp only[show (rQ rows []).name=nR from rfl,show (rQ rows []).rows=rows from rfl,show (rQ rows []).columns=fA from rfl]at Kz;rw[HDL.out]at Kz;dsimp only at Kz;clear hTT hQQ hRJ HRJ HDL;go_upto_region 11 with (fail);obtain ⟨W1,hW1⟩: ∃W,W=PW.alloc (.cells #[.string ⟨#[114]⟩,.slice A1 3 3,.slice none 0 0,.slice A5 n5 c5] 29):=⟨_,rfl⟩;obtain ⟨hbW1,gZ,r0,r1,r2,r3⟩:=jN hW1 rfl;rw[<-hW1];clear hW1;have yc:=hide hbW1;clear hbW1;have LR:=lt_of_cell r0;go_wp2_with fail;have Qa:=hide (aa (aa (aa jU.out Ae.out) lL.out) yc.out);refine (Kz.out _ (J1.out.below yc.out) (J2.out.below yc.out) (J3.out.below yc.out) (J4.out.below yc.out) (J5.out.below yc.out) (HW.out.below Qa.out)).mono ?_;rintro e WR ⟨⟨A7,m7,c7,A8,m8,c8,rfl,MC,FK⟩,yX⟩;have zV:=rJ r0 r1 r2 r3;have jq:=hide yX;clear yX;have hm7:m7<=4096:=by rw[<-MC.len];exact hTl
   have Jy:m8<=4096:=by rw[<-FK.len];exact hQl
   have I7:=hide MC;clear MC;have I8:=hide FK;clear FK;obtain ⟨LR,r0,r1,r2,r3⟩:=zV.out _ jq.out;go_wp2_with fail;refine (rejoin_any _ nR A7 m7 c7 TT I7.out (by omega) A8 m8 c8 QQ I8.out (by omega)).mono ?_;rintro e TY ⟨⟨v9,rfl,vV⟩,FE⟩;have gY:=hide FE;clear FE;rw[QB.out]at vV⊢;dsimp only at vV⊢;obtain ⟨B9,e9,rfl,hi9⟩:=vV.inn;obtain ⟨m9,hm9⟩: ∃m,rows.length=m:=⟨_,rfl⟩;rw[hm9]at hi9⊢;clear vV hm9;have I9:=hide hi9;clear hi9;have Cw:=hide (aa jq.out gY.out);obtain ⟨LR,r0,r1,r2,r3⟩:=zV.out _ Cw.out;go_wp2_with fail;have Kq:=hide (aa (aa (aa (aa Ae.out lL.out) yc.out) jq.out) gY.out);have MN:=hide (aa (aa (aa lL.out yc.out) jq.out) gY.out);refine (sameEnts_any _ B1 B2 m1 m2 e1 e2 R1.2 R1.2 (I1.out.below Kq.out) (I2.out.below MN.out)).mono ?_;rintro e WT ⟨⟨r1_,rfl,hr1⟩,Og⟩;have SG29:=hide Og;clear Og;obtain rfl:r1_=true:=hr1.2 rfl;have Kr:=hide (aa (aa jq.out gY.out) SG29.out);obtain ⟨LR,r0,r1,r2,r3⟩:=zV.out _ Kr.out;go_wp2_with fail;have G8:=hide (aa (aa (aa yc.out jq.out) gY.out) SG29.out);refine (sameEnts_any _ B9 A5 m9 n5 e9 c5 rows rows (I9.out.below SG29.out) (J2.out.below G8.out)).mono ?_;rintro e w30 ⟨⟨r2_,rfl,hr2⟩,hb30⟩;have SG33:=hide (aa SG29.out hb30);clear hb30;obtain rfl:r2_=true:=hr2.2 rfl;have BC35:=hide (aa (aa jq.out gY.out) SG33.out);obtain ⟨LR,r0,r1,r2,r3⟩:=zV.out _ BC35.out;go_wp2_with fail;have BC36:=hide (aa (aa (aa (aa (aa (aa jU.out Ae.out) lL.out) yc.out) jq.out) gY.out) SG33.out);refine (mf _ (HW.out.below BC36.out)).mono ?_;rintro e w34 ⟨rfl,hb34⟩;have SG37:=hide (aa SG33.out hb34);clear hb34;have xO:=hide (aa Mc.out (aa (aa (aa (aa (aa (aa jU.out Ae.out) lL.out) yc.out) jq.out) gY.out) SG37.out));have BC38:=hide (aa (aa jq.out gY.out) SG37.out);obtain ⟨LR,r0,r1,r2,r3⟩:=zV.out _ BC38.out;go_wp2;go_ret;exact ⟨rfl,xO.out⟩
end Go.Proofs.YtopjjlmfilgngaaGreatDoor
