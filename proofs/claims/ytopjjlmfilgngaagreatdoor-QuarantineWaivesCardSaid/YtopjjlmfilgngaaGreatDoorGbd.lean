/-
  quarantine.Waived (slices.ContainsFunc over waivers), ofRelation, otherOf, text; warehouseref30.Waived. CheckReferences, plain: the sum of two tables is a table; the check and its tables have no error; what a row that finds a partner is. Plain law: what Divide answers where no check has an error. No program is in sight. Plain law: a table and a change of it: their sum is a table, and the opposite change leads back. No program is in sight.
-/
import Derived.Test.YtopjjlmfilgngaaGreatDoorGax
import Derived.Test.YtopjjlmfilgngaaGreatDoorGad
import Derived.Test.YtopjjlmfilgngaaGreatDoorGal
import Derived.Test.YtopjjlmfilgngaaGreatDoorGat
import Derived.Test.YtopjjlmfilgngaaGreatDoorGan
import Derived.Test.YtopjjlmfilgngaaGreatDoorGae
import Derived.Test.YtopjjlmfilgngaaGreatDoorGaw
import Derived.Test.YtopjjlmfilgngaaGreatDoorGao
import Derived.Test.YtopjjlmfilgngaaGreatDoorGak
import Derived.Test.YtopjjlmfilgngaaGreatDoorGaa
import Derived.Test.YtopjjlmfilgngaaGreatDoorStk
import Derived.Test.YtopjjlmfilgngaaGreatDoorGac
import Derived.Test.YtopjjlmfilgngaaGreatDoorGbc
namespace Go.Proofs.YtopjjlmfilgngaaGreatDoor
set_option maxHeartbeats 4000000
set_option maxRecDepth 100000
open Go.RowKit
set_option linter.unusedSimpArgs false
set_option linter.unusedVariables false
theorem Rh (w:World)(x:Wvr)(Ax:Option Addr)(nx cx:Nat)(hx:In w Ax nx cx x.row)(name:ByteArray)(g1:Nat)(h1:w.cell? ⟨g1,0,none⟩=some (.string name))(Ar:Option Addr)(nr cr:Nat)(row:List Val)(hr:In w Ar nr cr row)(g2:Nat)(h2:w.cell? ⟨g2,0,none⟩=some (.slice Ar nr cr)):
  Calls Tryz.prog 30 #[.agg #[.string x.check,.slice Ax nx cx],.pointer (some ⟨g1,0,none⟩),.pointer (some ⟨g2,0,none⟩)] w λe w'=>e=.returned (.bool (Gl name row x))/\Below w.heap.size w w':=by
 have HD:=hide (show Gl name row x=(x.check.toList==name.toList&&aA x.row row==0) from rfl);obtain ⟨R,hR⟩: ∃R,Gl name row x=R:=⟨_,rfl⟩;rw[hR]at HD⊢;clear hR;have L1:=lt_of_cell h1;have L2:=lt_of_cell h2;cases hc:(x.check.toList==name.toList)
 ·obtain rfl:R=false:=by rw[HD.out,hc];rfl
  go_enter Tryz.func30,Tryz.ntmps30;have L1:=lt_of_cell h1;have L2:=lt_of_cell h2;go_wp2_with fail;all_goals (try (exfalso;go_light;simp_all;done));go_ret;exact ⟨rfl,ae⟩
 ·have HQ:=hide (show R=(aA x.row row==0) from by rw[HD.out,hc];rfl);go_enter Tryz.func30,Tryz.ntmps30;have HX:=hide hx;clear hx;have HRW:=hide hr;clear hr;have L1:=lt_of_cell h1;have L2:=lt_of_cell h2;go_wp2_with fail;obtain ⟨W1,hW1⟩: ∃W,W=w.alloc (.cells #[.string x.check,.slice Ax nx cx] 33):=⟨_,rfl⟩;obtain ⟨hbW1,fZ,x0,x1⟩:=Dj hW1 rfl;rw[<-hW1];clear hW1;have o1:=Cw (pW h1) (pW h2);have iM:=hide hbW1;clear hbW1;have LX:=lt_of_cell x0;obtain ⟨⟨L1,h1⟩,L2,h2⟩:=o1.out _ iM.out;go_wp2_with fail;refine (qI _ Ax Ar nx nr cx cr x.row row (HX.out.below iM.out) (HRW.out.below iM.out)).mono ?_;rintro e w3 ⟨rfl,hb3⟩;have o4:=Cw (pW h1) (Cw (pW h2) (MP x0 x1));have kL:=hide hb3;clear hb3;obtain ⟨Q,hQ⟩: ∃Q,aA x.row row=Q:=⟨_,rfl⟩;rw[hQ]at HQ⊢;clear hQ;obtain rfl:=HQ.out;obtain ⟨⟨L1,h1⟩,⟨L2,h2⟩,LX,x0,x1⟩:=o4.out _ kL.out;go_wp2;all_goals (try (exfalso;go_light;simp_all;done));go_ret;exact ⟨rfl,(aa iM.out kL.out)⟩
theorem Bt (w:World)(A:Option Addr)(n c:Nat)(xs:List Wvr)(hx:In w A n c xs)(name:ByteArray)(g1:Nat)(h1:w.cell? ⟨g1,0,none⟩=some (.string name))(Ar:Option Addr)(nr cr:Nat)(row:List Val)(hr:In w Ar nr cr row)(g2:Nat)(h2:w.cell? ⟨g2,0,none⟩=some (.slice Ar nr cr)):
  Calls Tryz.prog 56 #[.slice A n c,.func (.func 30) #[] #[.pointer (some ⟨g1,0,none⟩),.pointer (some ⟨g2,0,none⟩)]] w
   λe w'=>e=.returned (.int .i64 (eF (Gl name row) 0 xs))/\Below w.heap.size w w':=by
 have h63:=hx.le;have L1:=lt_of_cell h1;have L2:=lt_of_cell h2;obtain ⟨P,hP⟩: ∃P,Gl name row=P:=⟨_,rfl⟩;have Gm:=hide λW hb b n c x hx=>Rh W x b n c hx name g1 (ah hb L1 h1) Ar nr cr row (hr.below hb) g2 (ah hb L2 h2);rw[hP]at Gm;rw[hP];clear hP L1 L2 h1 h2 hr;go_enter Tryz.func56,Tryz.ntmps56;go_wp2;go_loopw [8] (λi wr=> ∃k:Nat,k<=n/\i=.int .i64 k/\eF P 0 xs=eF P k (xs.drop k)/\Below w.heap.size w wr) (λi _=>n-(intOf i).toNat)
 case atStart=>exact ⟨0,Nat.zero_le _,rfl,rfl,Below.refl _ _⟩
 case round=>
  obtain ⟨k,hk,rfl,heq,hb⟩:=hrel;have HE:=hide heq;clear heq;by_cases hlt':k<n
  ·obtain ⟨b,off,x,rfl,hB,HX,Ax,nx,cx,e0,e1,e2,e3⟩:=(hx.below hb).wvr hlt';have HE2:=hide e2;clear e2;go_wp2_with fail;refine (Gm.out _ hb Ax nx cx x HE2.out).mono ?_;rintro e w1 ⟨rfl,hb1⟩;have hbb:=aa hb hb1;clear hb1 e0 e1;cases hz:P x
   ·go_wp2;all_goals (try (exfalso;go_light;simp_all;done));go_roundw
    case rel=>exact ⟨k+1,by omega,by go_num,by rw[HE.out,HX.out,eF,if_neg (by simp[hz])],hbb⟩
    case measure=>simp[intOf];omega
   ·go_wp2;all_goals (try (exfalso;go_light;simp_all;done));go_ret;exact ⟨ax (by rw[HE.out,HX.out,eF,if_pos hz]),hbb⟩
  ·go_wp2;go_ret;exact ⟨ax (by rw[HE.out,aI hx.len (by omega),eF]),hb⟩
theorem IV (w:World)(A:Option Addr)(n c:Nat)(ws:List Wvr)(hx:In w A n c ws)(name:ByteArray)(Ar:Option Addr)(nr cr:Nat)(row:List Val)(hr:In w Ar nr cr row):
  Calls Tryz.prog 10 #[.slice A n c,.string name,.slice Ar nr cr] w λe w'=>e=.returned (.bool (dG ws name row))/\Below w.heap.size w w':=by
 have HN:=hide (uR (Gl name row) ws 0);have HD:=hide (show dG ws name row=ws.any (Gl name row) from rfl);obtain ⟨R,hR⟩: ∃R,dG ws name row=R:=⟨_,rfl⟩;rw[hR]at HD⊢;clear hR;have HCF:Hid (∀(W:World),In W A n c ws->In W Ar nr cr row-> ∀(g1 g2:Nat),W.cell? ⟨g1,0,none⟩=some (.string name)->W.cell? ⟨g2,0,none⟩=some (.slice Ar nr cr)->
   Calls Tryz.prog 29 #[.slice A n c,.func (.func 30) #[] #[.pointer (some ⟨g1,0,none⟩),.pointer (some ⟨g2,0,none⟩)]] W λe w'=>e=.returned (.bool R)/\Below W.heap.size W w'):=hide (by
  intro W hx hr g1 g2 h1 h2;have HIF:=hide (Bt W A n c ws hx name g1 h1 Ar nr cr row hr g2 h2);rw[HD.out,<-HN.out];obtain ⟨F,hF⟩: ∃F,eF (Gl name row) 0 ws=F:=⟨_,rfl⟩;rw[hF]at HIF;rw[hF];clear hF h1 h2 hx hr;go_enter Tryz.func29,Tryz.ntmps29;go_wp2_with fail;refine HIF.out.mono ?_;rintro e w1 ⟨rfl,hb1⟩;go_wp2;go_ret;exact ⟨rfl,hb1⟩)
 clear HN HD;go_enter Tryz.func10,Tryz.ntmps10;have HX:=hide hx;clear hx;have HRW:=hide hr;clear hr;go_wp2_with fail;obtain ⟨W1,hW1⟩: ∃W,W=w.alloc (.cells #[.string name] 9):=⟨_,rfl⟩;obtain ⟨hbW1,fZ,x0⟩:=kg hW1 rfl;rw[<-hW1];clear hW1;have tQ:=hide hbW1;clear hbW1;have L1:=lt_of_cell x0;obtain ⟨W2,hW2⟩: ∃W,W=W1.alloc (.cells #[.slice Ar nr cr] 23):=⟨_,rfl⟩;obtain ⟨hbW2,JS,y0⟩:=kg (b:=w.heap.size+1) hW2 (by rw[fZ.out]);rw[<-hW2];clear hW2;have o7:=pW x0;have qH:=hide hbW2;clear hbW2;have L2:=lt_of_cell y0;obtain ⟨L1,x0⟩:=o7.out _ qH.out;have X0:=x0;have Y0:=y0;go_wp2_with fail;have Ep:=hide (aa tQ.out qH.out);refine (HCF.out _ (HX.out.below Ep.out) (HRW.out.below Ep.out) _ _ X0 Y0).mono ?_;rintro e w9 ⟨rfl,fK⟩;have DZ:=Cw (pW x0) (pW y0);have jD:=hide fK;clear fK;obtain ⟨⟨L1,x0⟩,L2,y0⟩:=DZ.out _ jD.out;go_wp2;go_ret;exact ⟨rfl,(aa (aa tQ.out qH.out) jD.out)⟩
theorem AZ (w:World)(A:Option Addr)(n c:Nat)(ws:List Wvr)(hx:In w A n c ws)(name:ByteArray)(Ar:Option Addr)(nr cr:Nat)(row:List Val)(hr:In w Ar nr cr row):
  Calls Tryz.prog 11 #[.slice A n c,.string name,.slice Ar nr cr] w λe w'=>e=.returned (.bool (dG ws name row))/\Below w.heap.size w w':=by
 have HD:=hide (show dG ws name row=ws.any (Gl name row) from rfl);obtain ⟨R,hR⟩: ∃R,dG ws name row=R:=⟨_,rfl⟩;rw[hR]at HD⊢;clear hR;have h63:=hx.le;go_enter Tryz.func11,Tryz.ntmps11;have HX:=hide hx;clear hx;have HRW:=hide hr;clear hr;go_wp2;go_loopw [7] (λi wr=> ∃k:Nat,k<=n/\i=.int .i64 k/\R=(ws.drop k).any (Gl name row)/\Below w.heap.size w wr) (λi _=>n-(intOf i).toNat)
 case atStart=>exact ⟨0,Nat.zero_le _,rfl,HD.out,Below.refl _ _⟩
 case round=>
  obtain ⟨k,hk,rfl,heq,hb⟩:=hrel;have HE:=hide heq;clear heq HD;have qN:=hide hb;clear hb;by_cases hlt':k<n
  ·obtain ⟨b,off,x,rfl,hB,Pe,Ax,nx,cx,e0,e1,e2,e3⟩:=(HX.out.below qN.out).wvr hlt';have HE2:=hide e2;clear e2;have HW:Hid (Gl name row x=(x.check.toList==name.toList&&vz x.row row)):=hide rfl;have HN:Hid ((ws.drop k).any (Gl name row)=(Gl name row x || (ws.drop (k+1)).any (Gl name row))):=hide (by rw[Pe.out,List.any_cons]);obtain ⟨N,hN⟩: ∃N,(ws.drop (k+1)).any (Gl name row)=N:=⟨_,rfl⟩;have O8:=hide hN;rw[hN]at HN;clear hN;cases hz:(x.check.toList==name.toList)
   ·have HR:Hid (R=N):=hide (by rw[HE.out,HN.out,HW.out,hz];rfl);go_wp2;all_goals (try (exfalso;go_light;simp_all;done));go_roundw
    case rel=>exact ⟨k+1,by omega,by go_num,by rw[HR.out,O8.out],qN.out⟩
    case measure=>simp[intOf];omega
   ·go_wp2_with fail;refine (rP _ Ax Ar nx nr cx cr x.row row HE2.out (HRW.out.below qN.out)).mono ?_;rintro e w1 ⟨⟨rr,rfl,hrr⟩,hb1⟩;obtain rfl:vz x.row row=rr:=by
     cases h:vz x.row row
     ·cases rr
      ·rfl
      ·exact absurd (mg.2 (hrr.1 rfl)) (by simp[h])
     ·exact (hrr.2 (mg.1 h)).symm
    clear hrr;have xG:=hide (aa qN.out hb1);clear hb1;cases hv:vz x.row row
    ·have HR:Hid (R=N):=hide (by rw[HE.out,HN.out,HW.out,hz,hv];rfl);go_wp2;all_goals (try (exfalso;go_light;simp_all;done));go_roundw
     case rel=>exact ⟨k+1,by omega,by go_num,by rw[HR.out,O8.out],xG.out⟩
     case measure=>simp[intOf];omega
    ·obtain rfl:R=true:=by rw[HE.out,HN.out,HW.out,hz,hv];rfl
     go_wp2;all_goals (try (exfalso;go_light;simp_all;done));go_ret;exact ⟨rfl,xG.out⟩
  ·obtain rfl:R=false:=by rw[HE.out,aI HX.out.len (by omega)];rfl
   go_wp2;all_goals (try (exfalso;go_light;simp_all;done));go_ret;exact ⟨rfl,qN.out⟩
theorem Ae (w:World)(A:Option Addr)(n c:Nat)(row:List Val)(hx:In w A n c row):
  Calls Tryz.prog 38 #[.slice A n c] w λe w'=>e=.returned (.string (bE row))/\Below w.heap.size w w':=by
 have HT:=hide (show bE row=⟨(encS row).2.toArray⟩ from rfl);generalize bE row=R at*;go_enter Tryz.func38,Tryz.ntmps38;go_wp2_with fail;refine (yQ _ A n c row (by exact hx)).mono ?_;rintro e w1 ⟨⟨v,rfl,ho⟩,hb⟩;obtain ⟨A1,c1,rfl⟩:=ho.form;have xC:=EU ho rfl;rw[<-HT.out]at xC;have HB:=hide hb;clear ho hb HT;go_wp2;go_ret;exact ⟨rfl,HB.out⟩
theorem M4:Elem Tryz.prog 39 48 14 184:=ni (.agg #[.string ⟨#[]⟩,.string ⟨#[]⟩,.int .i64 0,.slice none 0 0,.string ⟨#[]⟩,.slice none 0 0,.int .i64 0,.int .i64 0,.slice none 0 0,.int .i64 0,.int .i64 0,.int .i64 0,.int .i64 0,.int .i64 0]) Tryz.underlying39 (by kernel_rfl) rfl (by decide)
theorem zN (w:World)(A:Option Addr)(n c:Nat)(cs:List Chk)(hx:In w A n c cs)(name:ByteArray)(hn:n<=4096):
  Calls Tryz.prog 34 #[.slice A n c,.string name] w
   λe w'=>(∃v,e=.returned v/\OL 48 w.heap.size (λ_=>True) [] w' v (kK cs name))/\Below w.heap.size w w':=by
 obtain ⟨P,hP⟩: ∃P,ownB name=P:=⟨_,rfl⟩;have HP:=hide hP;have HD:Hid (kK cs name=cs.filter P):=hide (by rw[<-hP];rfl);obtain ⟨R,hR⟩: ∃R,kK cs name=R:=⟨_,rfl⟩;rw[hR]at HD⊢;clear hP hR;have h63:=hx.le;have HLEN:=hide hx.len;go_enter Tryz.func34,Tryz.ntmps34;have HX:=hide hx;clear hx;go_wp2;go_loopw [5,10] (λo i wr=> ∃(k:Nat) (ys:List Chk),k<=n/\i=.int .i64 k/\ys=(cs.take k).filter P/\ys.length<=k/\OL 48 w.heap.size (λ_=>True) [] wr o ys/\Below w.heap.size w wr) (λ_ i _=>n-(RowKit.intOf i).toNat)
 case atStart=>exact ⟨0,[],Nat.zero_le _,rfl,by simp,by simp,OL.nil (Nat.le_refl _),Below.refl _ _⟩
 case round=>
  obtain ⟨k,ys,hk,rfl,hys,hyl,hol,hb⟩:=hrel;have GD:=hide hys;have Bb:=hide hb;clear hys;by_cases hlt:k<n
  ·obtain ⟨bq,oq,y,rfl,hBb,Pe,A1,n1,c1,A2,n2,c2,A3,n3,c3,⟨f0,f1,f2,f3,f4,f5,f6,f7,f8,f9,f10,f11,f12,f13⟩,i1,i2,i3,hok⟩:=HX.out.chk hlt;have I1:=hide i1;have I2:=hide i2;have I3:=hide i3;clear i1 i2 i3;have mX:=hide hb;clear hb;have oG:=hide hol;clear hol;have k0:(0:Int)<=(k:Int):=by omega
   have k1:(k:Int)<(n:Int):=by omega
   have e0:=ah Bb.out hBb f0;have e1:=ah Bb.out hBb f1;have e2:=ah Bb.out hBb f2;have e3:=ah Bb.out hBb f3;have e4:=ah Bb.out hBb f4;have e5:=ah Bb.out hBb f5;have e6:=ah Bb.out hBb f6;have e7:=ah Bb.out hBb f7;have e8:=ah Bb.out hBb f8;have e9:=ah Bb.out hBb f9;have e10:=ah Bb.out hBb f10;have e11:=ah Bb.out hBb f11;have e12:=ah Bb.out hBb f12;have e13:=ah Bb.out hBb f13;clear f0 f1 f2 f3 f4 f5 f6 f7 f8 f9 f10 f11 f12 f13;have C8:=hide hok;have Ve:Hid (P y=(y.table.toList==name.toList&&y.policy==0)):=hide (by rw[<-HP.out];rfl);clear hok;have TK:=hyl;have zi:ys.length+1<=maxLen:=by simp only[maxLen];omega
   have zk:(ys.length+1)*184<=140737488355328:=by omega
   go_upto_region 5 with (fail);obtain ⟨W2,hW2⟩: ∃W,W=wr.alloc (.cells #[.string y.name,.string y.table,.int .i64 y.kind,.slice A1 n1 c1,.string y.other,.slice A2 n2 c2,.int .i64 y.low,.int .i64 y.high,.slice A3 n3 c3,.int .i64 y.ln,.int .i64 y.ld,.int .i64 y.mn,.int .i64 y.md,.int .i64 y.policy] 48):=⟨_,rfl⟩;obtain ⟨hbW2,JS,p0,p1,p2,p3,p4,p5,p6,p7,p8,p9,RQ,RS,RU,RX⟩:=bT hW2 rfl;rw[<-hW2];clear hW2;have lQ:=hide hbW2;clear hbW2;have LP:=lt_of_cell p0;clear e0 e1 e2 e3 e4 e5 e6 e7 e8 e9 e10 e11 e12 e13;have JJ:=hide (oG.out.below lQ.out);have jk:=hide (aa mX.out lQ.out);cases hv:P y
   ·have HN:Hid (ys=(cs.take (k+1)).filter P):=hide (by rw[bg Pe.out,List.filter_append,GD.out,List.filter_cons_of_neg (by simp[hv])];simp);have hq:(y.table.toList==name.toList)=false\/((y.table.toList==name.toList)=true/\(y.policy==0)=false):=by
     have:=Ve.out;rw[hv]at this;cases h1:(y.table.toList==name.toList)
     ·exact .inl rfl
     ·exact .inr ⟨rfl,by rw[h1]at this;simpa using this⟩
    rcases hq with hq|⟨hq,hq2⟩
    ·go_wp2;all_goals (try (exfalso;go_light;simp_all;done));go_roundw
     case rel=>exact ⟨k+1,ys,by omega,by go_num,HN.out,by omega,JJ.out,jk.out⟩
     case measure=>simp[RowKit.intOf];omega
    ·go_wp2;all_goals (try (exfalso;go_light;simp_all;done));go_roundw
     case rel=>exact ⟨k+1,ys,by omega,by go_num,HN.out,by omega,JJ.out,jk.out⟩
     case measure=>simp[RowKit.intOf];omega
   ·have HN:Hid (ys++[y]=(cs.take (k+1)).filter P):=hide (by rw[bg Pe.out,List.filter_append,GD.out,List.filter_cons_of_pos (by simp[hv])];simp);have hq:(y.table.toList==name.toList)=true/\(y.policy==0)=true:=by
     have:=Ve.out;rw[hv]at this;simpa using this.symm
    obtain ⟨hq1,hq2⟩:=hq;have PO:Hid (Rep.rd W2 (BS w.heap.size (λ_=>True) [] W2) [.string y.name,.string y.table,.int .i64 y.kind,.slice A1 n1 c1,.string y.other,.slice A2 n2 c2,.int .i64 y.low,.int .i64 y.high,.slice A3 n3 c3,.int .i64 y.ln,.int .i64 y.ld,.int .i64 y.mn,.int .i64 y.md,.int .i64 y.policy] y):=hide ⟨A1,n1,c1,A2,n2,c2,A3,n3,c3,rfl,(Sl.keep (Same.below jk.out) I1.out).mono λk hk=>.inl ⟨trivial,hk⟩,(Sl.keep (Same.below jk.out) I2.out).mono λk hk=>.inl ⟨trivial,hk⟩,(Sl.keep (Same.below jk.out) I3.out).mono λk hk=>.inl ⟨trivial,hk⟩,C8.out⟩;go_wp2_with (at_builtin;refine bF _ rfl _ _ _ rfl M4 (by simp) W2 _ rfl JJ.out rfl rfl y PO.out zi zk ?_;intro v9 w9 oQ fK qR kJ);all_goals (try (exfalso;go_light;simp_all;done));have qG:=hide oQ;have uB:=hide (jk.out.trans fK);clear oQ fK qR kJ;go_wp2;all_goals (try (exfalso;go_light;simp_all;done));go_roundw
    case rel=>exact ⟨k+1,ys++[y],by omega,by go_num,HN.out,by simp;omega,qG.out,uB.out⟩
    case measure=>simp[RowKit.intOf];omega
  ·obtain rfl:R=ys:=by rw[HD.out,GD.out,List.take_of_length_le (by rw[HLEN.out];omega)]
   have JK:=hide hol;go_wp2;go_ret;exact ⟨⟨_,rfl,JK.out⟩,Bb.out⟩
theorem uq {w:World}{g:Nat}{u0 u1 u2 u3 v0 v1 v2 v3:Value}(h0:w.cell? ⟨g,0,none⟩=some u0)(h1:w.cell? ⟨g,1,none⟩=some u1)(h2:w.cell? ⟨g,2,none⟩=some u2)(h3:w.cell? ⟨g,3,none⟩=some u3):
  ∀j v,[v0,v1,v2,v3][j]?=some v->((((w.setCell ⟨g,0,none⟩ v0).setCell ⟨g,1,none⟩ v1).setCell ⟨g,2,none⟩ v2).setCell ⟨g,3,none⟩ v3).cell? ⟨g,j,none⟩=some v:=by
 intro j v hv
 match j,hv with
 | 0,hv=>simp at hv;subst hv;exact ag (ag (ag (cO h0) (.inr (by omega))) (.inr (by omega))) (.inr (by omega))
 | 1,hv=>simp at hv;subst hv;exact ag (ag (cO (ag h1 (.inr (by omega)))) (.inr (by omega))) (.inr (by omega))
 | 2,hv=>simp at hv;subst hv;exact ag (cO (ag (ag h2 (.inr (by omega))) (.inr (by omega)))) (.inr (by omega))
 | 3,hv=>simp at hv;subst hv;exact cO (ag (ag (ag h3 (.inr (by omega))) (.inr (by omega))) (.inr (by omega)))
theorem yS {p:Rel->Bool}{l:List Rel}{k:Nat}{x:Rel}(h:l.drop k=x :: l.drop (k+1)):(l.drop k).find? p=if p x=true then some x else (l.drop (k+1)).find? p:=by
 rw[h,List.find?_cons];cases p x <;> rfl
theorem FZ (w:World)(x:Chk)(A:Option Addr)(n c:Nat)(A':Option Addr)(n' c':Nat)(aX:Option Addr)(n'' c'':Nat)(A9:Option Addr)(n9 c9:Nat)(rs:List Rel)(hx:In w A9 n9 c9 rs):
  Calls Tryz.prog 52 #[.agg (aB x A n c A' n' c' aX n'' c'').toArray,.slice A9 n9 c9] w
   λe w'=>(∃on A2 n2 c2 Al nl cl A4 n4 c4,e=.returned (.tuple #[.agg #[.string on,.slice A2 n2 c2,.slice Al nl cl,.slice A4 n4 c4],.int .i64 (dY x rs).1])/\In w' A2 n2 c2 (dY x rs).2.columns/\In w' A4 n4 c4 (dY x rs).2.rows)/\Below w.heap.size w w':=by
 have HD:=hide (show dY x rs=if ek x.other=true then (0,zG) else Cz (rs.find? (Im x.other)) from rfl);obtain ⟨R,hR⟩: ∃R,dY x rs=R:=⟨_,rfl⟩;rw[hR]at HD⊢;clear hR;obtain ⟨P,hP⟩: ∃P,Im x.other=P:=⟨_,rfl⟩;have HP:=hide hP;rw[hP]at HD;clear hP;have h63:=hx.le;simp only[aB];cases hz:x.other.toList.isEmpty;rotate_left
 ·obtain rfl:R=(0,zG):=by rw[HD.out,if_pos (by rw[ek];exact hz)]
  go_enter Tryz.func52,Tryz.ntmps52;go_upto_region 1 with (fail);obtain ⟨W1,hW1⟩: ∃W,W=w.alloc (.cells #[.string x.name,.string x.table,.int .i64 x.kind,.slice A n c,.string x.other,.slice A' n' c',.int .i64 x.low,.int .i64 x.high,.slice aX n'' c'',.int .i64 x.ln,.int .i64 x.ld,.int .i64 x.mn,.int .i64 x.md,.int .i64 x.policy] 48):=⟨_,rfl⟩;obtain ⟨hbW1,fZ,g0,g1,g2,g3,g4,g5,g6,g7,g8,g9,g10,g11,g12,g13⟩:=bT hW1 rfl;rw[<-hW1];clear hW1;have j5:=hide hbW1;clear hbW1;have LR:=lt_of_cell g0;obtain ⟨W2,hW2⟩: ∃W,W=W1.alloc (.cells #[.string ⟨#[]⟩,.slice none 0 0,.slice none 0 0,.slice none 0 0] 29):=⟨_,rfl⟩;obtain ⟨hbW2,JS,z0,z1,z2,z3⟩:=kr (b:=w.heap.size+1) hW2 (by rw[fZ.out]);have tO:Hid (dP W2 (w.heap.size+1) 29 4):=hide (by rw[<-fZ.out,hW2];exact dP.made _ _ _ _ rfl);rw[<-hW2];clear hW2;have o18:=mr g0 g1 g2 g3 g4 g5 g6 g7 g8 g9 g10 g11 g12 g13;have kN:=hide hbW2;clear hbW2;have L2:=lt_of_cell z0;have y0:=tO.out.frozen 0;have y1:=tO.out.frozen 1;have y2:=tO.out.frozen 2;have y3:=tO.out.frozen 3;have oD:=hide (aa j5.out kN.out);obtain ⟨LR,g0,g1,g2,g3,g4,g5,g6,g7,g8,g9,g10,g11,g12,g13⟩:=o18.out _ kN.out;go_wp2;all_goals (try (exfalso;go_light;simp_all;done));have xS:=hide ((((oD.out.setCell (p:=⟨w.heap.size+1,0,none⟩) (by simp) (.string ⟨#[]⟩)).setCell (p:=⟨w.heap.size+1,1,none⟩) (by simp) (.slice none 0 0)).setCell (p:=⟨w.heap.size+1,2,none⟩) (by simp) (.slice none 0 0)).setCell (p:=⟨w.heap.size+1,3,none⟩) (by simp) (.slice none 0 0));refine bodyPost_ret (v:=.tuple #[.agg #[.string ⟨#[]⟩,.slice none 0 0,.slice none 0 0,.slice none 0 0],.int .i64 0]) (bS (cs:=[.string ⟨#[]⟩,.slice none 0 0,.slice none 0 0,.slice none 0 0]) rfl _ _ _ _ _ rfl rfl (uq z0 z1 z2 z3) Tryz.underlying29 rfl (by kernel_rfl)) rfl ⟨⟨_,none,0,0,none,0,0,none,0,0,rfl,In.nil_,In.nil_⟩,xS.out⟩
 have HD2:Hid (R=Cz (rs.find? P)):=hide (by rw[HD.out,if_neg (by rw[ek,hz];simp)]);clear HD;have HX0:=hide hx;go_enter Tryz.func52,Tryz.ntmps52;have HX:=hide hx;clear hx;go_upto_region 1 with (fail);obtain ⟨W1,hW1⟩: ∃W,W=w.alloc (.cells #[.string x.name,.string x.table,.int .i64 x.kind,.slice A n c,.string x.other,.slice A' n' c',.int .i64 x.low,.int .i64 x.high,.slice aX n'' c'',.int .i64 x.ln,.int .i64 x.ld,.int .i64 x.mn,.int .i64 x.md,.int .i64 x.policy] 48):=⟨_,rfl⟩;obtain ⟨hbW1,fZ,g0,g1,g2,g3,g4,g5,g6,g7,g8,g9,g10,g11,g12,g13⟩:=bT hW1 rfl;rw[<-hW1];clear hW1;have jE:=hide hbW1;clear hbW1;have LR:=lt_of_cell g0;obtain ⟨W2,hW2⟩: ∃W,W=W1.alloc (.cells #[.string ⟨#[]⟩,.slice none 0 0,.slice none 0 0,.slice none 0 0] 29):=⟨_,rfl⟩;obtain ⟨hbW2,JS,z0,z1,z2,z3⟩:=kr (b:=w.heap.size+1) hW2 (by rw[fZ.out]);have tO:Hid (dP W2 (w.heap.size+1) 29 4):=hide (by rw[<-fZ.out,hW2];exact dP.made _ _ _ _ rfl);rw[<-hW2];clear hW2;have xM:=mr g0 g1 g2 g3 g4 g5 g6 g7 g8 g9 g10 g11 g12 g13;have gZ:=hide hbW2;clear hbW2;have L2:=lt_of_cell z0;obtain ⟨LR,g0,g1,g2,g3,g4,g5,g6,g7,g8,g9,g10,g11,g12,g13⟩:=xM.out _ gZ.out;go_wp2;all_goals (try (exfalso;go_light;simp_all;done));go_loopw [14] (λi wr=> ∃k:Nat,k<=n9/\i=.int .i64 k/\R=Cz ((rs.drop k).find? P)/\Below W2.heap.size W2 wr) (λi _=>n9-(intOf i).toNat)
 case atStart=>exact ⟨0,Nat.zero_le _,rfl,HD2.out,Below.refl _ _⟩
 case round=>
  obtain ⟨k,hk,rfl,heq,hb⟩:=hrel;have HE:=hide heq;clear heq HD2;have UI:=Cw (mr g0 g1 g2 g3 g4 g5 g6 g7 g8 g9 g10 g11 g12 g13) (sP z0 z1 z2 z3);have fO:=hide hb;clear hb;by_cases hlt':k<n9
  ·obtain ⟨b,off,y,rfl,hB,Pe,B1,m1,d1,B2,m2,d2,B3,m3,d3,f0,f1,f2,f3,i1,i3⟩:=HX0.out.rel hlt';have HI1:=hide i1;have HI3:=hide i3;clear i1 i3;have e0:=ah (aa (aa jE.out gZ.out) fO.out) hB f0;have e1:=ah (aa (aa jE.out gZ.out) fO.out) hB f1;have e2:=ah (aa (aa jE.out gZ.out) fO.out) hB f2;have e3:=ah (aa (aa jE.out gZ.out) fO.out) hB f3;clear f0 f1 f2 f3;have k0:(0:Int)<=(k:Int):=by omega
   have k1:(k:Int)<(n9:Int):=by omega
   have Ve:Hid (P y=(y.name.toList==x.other.toList)):=hide (by rw[<-HP.out];rfl);obtain ⟨⟨LR,g0,g1,g2,g3,g4,g5,g6,g7,g8,g9,g10,g11,g12,g13⟩,L2,z0,z1,z2,z3⟩:=UI.out _ fO.out;go_upto_region 6 with (fail);obtain ⟨W5,tZ⟩: ∃W,W=wr.alloc (.cells #[.string y.name,.slice B1 m1 d1,.slice B2 m2 d2,.slice B3 m3 d3] 29):=⟨_,rfl⟩;obtain ⟨mG,EK,x0,x1,x2,x3⟩:=kr tZ rfl;rw[<-tZ];clear tZ;have lV:=hide (aa fO.out mG);clear mG;have L5:=lt_of_cell x0;cases hq:(y.name.toList==x.other.toList)
   ·have HN:Hid (R=Cz ((rs.drop (k+1)).find? P)):=hide (by rw[HE.out,yS Pe.out,if_neg (by rw[Ve.out,hq];simp)]);have CY:=hide lV.out;obtain ⟨⟨LR,g0,g1,g2,g3,g4,g5,g6,g7,g8,g9,g10,g11,g12,g13⟩,L2,z0,z1,z2,z3⟩:=UI.out _ lV.out;go_wp2;all_goals (try (exfalso;go_light;simp_all;done));go_roundw
    case rel=>exact ⟨k+1,by omega,by go_num,HN.out,CY.out⟩
    case measure=>simp[intOf];omega
   ·obtain rfl:R=(0,y):=by rw[HE.out,yS Pe.out,if_pos (by rw[Ve.out,hq])];rfl
    have y0:=(tO.out.below lV.out).frozen 0;have y1:=(tO.out.below lV.out).frozen 1;have y2:=(tO.out.below lV.out).frozen 2;have y3:=(tO.out.below lV.out).frozen 3;have oD:=hide (aa (aa jE.out gZ.out) lV.out);obtain ⟨⟨LR,g0,g1,g2,g3,g4,g5,g6,g7,g8,g9,g10,g11,g12,g13⟩,L2,z0,z1,z2,z3⟩:=UI.out _ lV.out;go_wp2;all_goals (try (exfalso;go_light;simp_all;done));have xS:=hide ((((oD.out.setCell (p:=⟨w.heap.size+1,0,none⟩) (by simp) (.string y.name)).setCell (p:=⟨w.heap.size+1,1,none⟩) (by simp) (.slice B1 m1 d1)).setCell (p:=⟨w.heap.size+1,2,none⟩) (by simp) (.slice B2 m2 d2)).setCell (p:=⟨w.heap.size+1,3,none⟩) (by simp) (.slice B3 m3 d3));refine bodyPost_ret (v:=.tuple #[.agg #[.string y.name,.slice B1 m1 d1,.slice B2 m2 d2,.slice B3 m3 d3],.int .i64 0]) (bS (cs:=[.string y.name,.slice B1 m1 d1,.slice B2 m2 d2,.slice B3 m3 d3]) rfl _ _ _ _ _ rfl rfl (uq z0 z1 z2 z3) Tryz.underlying29 rfl (by kernel_rfl)) rfl ⟨⟨_,B1,m1,d1,B2,m2,d2,B3,m3,d3,rfl,HI1.out.below xS.out,HI3.out.below xS.out⟩,xS.out⟩
  ·obtain rfl:R=(5,zG):=by rw[HE.out,aI HX.out.len (by omega)];rfl
   have y0:=(tO.out.below fO.out).frozen 0;have y1:=(tO.out.below fO.out).frozen 1;have y2:=(tO.out.below fO.out).frozen 2;have y3:=(tO.out.below fO.out).frozen 3;have oD:=hide (aa (aa jE.out gZ.out) fO.out);obtain ⟨⟨LR,g0,g1,g2,g3,g4,g5,g6,g7,g8,g9,g10,g11,g12,g13⟩,L2,z0,z1,z2,z3⟩:=UI.out _ fO.out;go_wp2;all_goals (try (exfalso;go_light;simp_all;done));have xS:=hide ((((oD.out.setCell (p:=⟨w.heap.size+1,0,none⟩) (by simp) (.string ⟨#[]⟩)).setCell (p:=⟨w.heap.size+1,1,none⟩) (by simp) (.slice none 0 0)).setCell (p:=⟨w.heap.size+1,2,none⟩) (by simp) (.slice none 0 0)).setCell (p:=⟨w.heap.size+1,3,none⟩) (by simp) (.slice none 0 0));refine bodyPost_ret (v:=.tuple #[.agg #[.string ⟨#[]⟩,.slice none 0 0,.slice none 0 0,.slice none 0 0],.int .i64 5]) (bS (cs:=[.string ⟨#[]⟩,.slice none 0 0,.slice none 0 0,.slice none 0 0]) rfl _ _ _ _ _ rfl rfl (uq z0 z1 z2 z3) Tryz.underlying29 rfl (by kernel_rfl)) rfl ⟨⟨_,none,0,0,none,0,0,none,0,0,rfl,In.nil_,In.nil_⟩,xS.out⟩
theorem sV.cnt {cols:List Col}(hl:cols.length<=12){zs:List Ent}(h:sV cols zs)(r:List Val):0<=Proofs.YtopjjlmfilgngaaGreatDoor.cnt zs r/\Proofs.YtopjjlmfilgngaaGreatDoor.cnt zs r<=2000:=by
 have hb:=(h.bag hl).1;by_cases q: ∃x∈zs,x.row=r
 ·obtain ⟨x,hx,rfl⟩:=q;rw[(j6 hb).mem hx];have:=(h.tab hl).1 x hx;omega
 ·rw[iy λx hx e=>q ⟨x,hx,dn.1 e⟩];omega
def vbO (r:Rel)(others:List Rel)(zs:List Zone)(c:Chk)(row:List Val):Bool:=bN c r.columns (dY c others).2.columns r.rows (dY c others).2.rows zs row
def UG (r:Rel)(others:List Rel)(ws:List Wvr)(zs:List Zone)(l:List Chk)(row:List Val):List ByteArray:=(l.filter λc=>vbO r others zs c row&&!dG ws c.name row).map Chk.name
theorem filter_one {l:List Ent}(h:jC l){x:Ent}(hx:x∈l){q:Ent->Bool}(hq: ∀y∈l,q y=true->y.row=x.row):l.filter q=if q x=true then [x] else []:=by
 induction l with
 |nil=>cases hx
 |cons z l ih=>
  rcases List.mem_cons.1 hx with rfl|hx
  ·have hl:l.filter q=[]:=List.filter_eq_nil_iff.2 λy hy hy2=>by
    have h1:=h.head y hy;rw[hq y (by simp[hy]) hy2]at h1;have:=dn.2 (rfl:x.row=x.row);omega
   rw[List.filter_cons,hl]
  ·have hz:¬q z=true:=λe=>by
    have h1:=h.head x hx;rw[hq z (by simp) e]at h1;have:=dn.2 (rfl:x.row=x.row);omega
   rw[List.filter_cons_of_neg hz];exact ih h.tail hx λy hy=>hq y (by simp[hy])
theorem CF {cols:List Col}(hc:aC cols=0){row:List Val}(hr:aG cols row=0):row.length<=12/\ ∀v∈row,valid v=true:=by
 have hl:=qx hr;have hcl:cols.length<=12:=by
  rw[aC]at hc;by_cases q:cols.length<1\/12<cols.length
  ·rw[if_pos q]at hc;omega
  ·omega
 refine ⟨by omega,λv hv=>?_⟩;obtain ⟨i,hi⟩:=List.mem_iff_getElem?.1 hv;exact Ci hr hi
theorem KI {cols:List Col}{rows:List Ent}(hc:aC cols=0)(hT:bP cols rows=0){x:Ent}(hx:x∈rows)(ws:List Wvr)(c:Chk)(q:List Val->Bool):
  jP ws c (rows.filter λy=>q y.row) (bE x.row)=if (q x.row&&!dG ws c.name x.row)=true then [c.name] else []:=by
 obtain ⟨hb,_,hr⟩:=aW hT;have h1:rows.filter (λy=>(decide (bE y.row=bE x.row)&&!dG ws c.name y.row)&&q y.row)=if (q x.row&&!dG ws c.name x.row)=true then [x] else []:=by
  rw[filter_one (j6 hb) hx (λy hy e=>by
   obtain ⟨a1,a2⟩:=CF hc (hr y hy);obtain ⟨b1,b2⟩:=CF hc (hr x hx);simp only[Bool.and_eq_true,decide_eq_true_eq]at e;exact (Ga a1 a2 b1 b2).1 e.1.1)]
  cases h2:q x.row <;> cases h3:dG ws c.name x.row <;> simp
 rw[jP,List.filter_filter,h1]
 split <;> rfl
theorem QK {l:List Chk}(p:Chk->Bool):(l.flatMap λc=>if p c=true then [c.name] else [])=(l.filter p).map Chk.name:=by
 induction l with
 |nil=>rfl
 |cons c l ih=>
  rw[List.flatMap_cons,ih,List.filter_cons];cases p c <;> simp
theorem Ll {r:Rel}{others:List Rel}{zs:List Zone}{c:Chk}(h:vG r others zs c=0):(dY c others).1=0/\dx c r.columns (dY c others).2.columns r.rows (dY c others).2.rows zs=0:=by
 rw[vG]at h;by_cases h1:(dY c others).1=0
 ·rw[if_neg (by simp[h1]),pF,jZ]at h;refine ⟨h1,?_⟩;by_cases h2:dx c r.columns (dY c others).2.columns r.rows (dY c others).2.rows zs=0
  ·exact h2
  ·rw[if_pos h2]at h;exact absurd h h2
 ·rw[if_pos h1]at h;exact absurd h h1
theorem El {r:Rel}{others:List Rel}{ws:List Wvr}{zs:List Zone}{l:List Chk}(hc:aC r.columns=0)(hT:bP r.columns r.rows=0)(hl: ∀c∈l,vG r others zs c=0){x:Ent}(hx:x∈r.rows):
  qE r others ws zs l (bE x.row)=UG r others ws zs l x.row:=by
 rw[qE,UG,<-QK];rw[List.flatMap_def,List.flatMap_def]
 congr 1
 refine List.map_congr_left λc hcl=>?_;have h1:=(Ll (hl c hcl)).2;rw[pF,jZ,if_neg (by simp[h1])];exact KI hc hT hx ws c (λrow=>vbO r others zs c row)
def zh (r:Rel)(others:List Rel)(ws:List Wvr)(zs:List Zone)(l:List Chk)(row:List Val):Bool:=!(UG r others ws zs l row).isEmpty
theorem Bl {α:Type}{f:Nat->α->Int}{l:List α}(h: ∀i,∀x∈l,f i x=0): ∀k,ai f k l=0:=by
 induction l with
 |nil=>intro k;rfl
 |cons x l ih=>
  intro k;rw[ai,if_neg (by simp[h k x (by simp)])];exact ih (λi y hy=>h i y (by simp[hy])) (k+1)
theorem Tq {r:Rel}{cs:List Chk}{others:List Rel}{ws:List Wvr}{zs:List Zone}(hc:aC r.columns=0)(hT:bP r.columns r.rows=0)(hl: ∀c∈kK cs r.name,vG r others zs c=0):
  Bj r cs others ws zs=(0,r.rows.filter (λx=>!zh r others ws zs (kK cs r.name) x.row),(r.rows.filter λx=>zh r others ws zs (kK cs r.name) x.row).map λx=>⟨r.name,x.row,x.count,UG r others ws zs (kK cs r.name) x.row⟩):=by
 obtain ⟨hb,ht,hr⟩:=aW hT;have h0:qD r others zs (kK cs r.name)=0:=Bl (λ_ c h=>hl c h) 0;rw[Bj,if_neg (by simp[h0]),if_neg (by simp[hb]),if_neg (by simp[ht])];have e1:r.rows.filter (λx=>(qE r others ws zs (kK cs r.name) (bE x.row)).isEmpty)=r.rows.filter (λx=>!zh r others ws zs (kK cs r.name) x.row):=
  List.filter_congr λx hx=>by rw[El hc hT hl hx,zh,Bool.not_not]
 have e2:r.rows.filter (λx=>!(qE r others ws zs (kK cs r.name) (bE x.row)).isEmpty)=r.rows.filter (λx=>zh r others ws zs (kK cs r.name) x.row):=
  List.filter_congr λx hx=>by rw[El hc hT hl hx,zh]
 rw[e1,e2]
 congr 2
 refine List.map_congr_left λx hx=>?_;rw[El hc hT hl (List.mem_filter.1 hx).1]
def Gs (old:List Ent)(k:Nat)(xs:List Ent):Prop:=
 (∀x∈xs,(-65536<=x.count/\x.count<0)/\ ∃p∈old,p.row=x.row)/\ ∀r,0<=cnt (old.take k) r+cnt xs r
theorem OP {l:List Ent}{k:Nat}{x:Ent}(h:l.drop k=x :: l.drop (k+1))(r:List Val):cnt (l.take (k+1)) r=cnt (l.take k) r+(if aA x.row r=0 then x.count else 0):=by
 rw[bg h,uN];simp[cnt]
theorem Gs.start (old:List Ent):Gs old 0 []:=⟨(λx hx=>by cases hx),λr=>by simp[cnt]⟩
theorem Gs.take {old xs:List Ent}{k:Nat}{p:Ent}(h:Gs old k xs)(hx:old.drop k=p :: old.drop (k+1))(hp:p.count<=65536){d:Int}(d0:0<=d)(d1:d<p.count):Gs old (k+1) (xs++[⟨p.row, -1-d⟩]):=by
 refine ⟨λy hy=>?_,λr=>?_⟩
 ·rcases List.mem_append.1 hy with hy|hy
  ·exact h.1 y hy
  ·simp at hy;subst hy;exact ⟨⟨by show -65536<= -1-d;omega,by show -1-d<0;omega⟩,p,aH hx,rfl⟩
 ·have:=h.2 r;rw[OP hx,uN];simp only[cnt]
  split <;> omega
def Gt (az:List Ent)(s k:Nat)(xs:List Ent):Prop:= ∃bs:List Ent,xs=az++bs/\bs.length+k<=s/\ ∀x∈bs,x.count=1
theorem Gt.start (az:List Ent)(s:Nat):Gt az s s az:=⟨[],by simp,by simp,λx hx=>by cases hx⟩
theorem Gt.add {az xs:List Ent}{s k:Nat}(h:Gt az s k xs)(hk:0<k)(row:List Val):Gt az s (k-1) (xs++[⟨row,1⟩]):=by
 obtain ⟨bs,rfl,h1,h2⟩:=h;refine ⟨bs++[⟨row,1⟩],by simp,by simp;omega,λx hx=>?_⟩;rcases List.mem_append.1 hx with hx|hx
 ·exact h2 x hx
 ·simp at hx;subst hx;rfl
def LQ (old:List Ent)(m:Nat)(xs:List Ent):Prop:= ∃az,Gs old old.length az/\Gt az m 0 xs
theorem LQ.mk {old az xs:List Ent}{n s m:Nat}(h:Gs old n az)(hn:old.length=n)(h2:Gt az s 0 xs)(hs:s<=m):LQ old m xs:=by
 subst hn;obtain ⟨bs,h3,h4,h5⟩:=h2;exact ⟨az,h,bs,h3,by omega,h5⟩
theorem Tj {l:List Ent}(h: ∀x∈l,0<=x.count)(r:List Val):0<=cnt l r:=by
 induction l with
 |nil=>simp[cnt]
 |cons x l ih=>
  have h1:=h x (by simp);have h2:=ih λy hy=>h y (by simp[hy]);rw[cnt]
  split <;> omega
theorem Tk {l:List Ent}(h: ∀x∈l,x.count<=0)(r:List Val):cnt l r<=0:=by
 induction l with
 |nil=>simp[cnt]
 |cons x l ih=>
  have h1:=h x (by simp);have h2:=ih λy hy=>h y (by simp[hy]);rw[cnt]
  split <;> omega
theorem Jj {l:List Ent}(h: ∀x∈l,x.count=1)(r:List Val):0<=cnt l r/\cnt l r<=(l.length:Int):=by
 induction l with
 |nil=>simp[cnt]
 |cons x l ih=>
  have h1:=h x (by simp);have h2:=ih λy hy=>h y (by simp[hy]);rw[cnt,List.length_cons]
  split <;> omega
theorem Ji {l:List Ent}{r:List Val}(h:cnt l r≠0): ∃x∈l,x.row=r:=by
 by_cases g: ∃x∈l,x.row=r
 ·exact g
 ·exact absurd (iy λx hx e=>g ⟨x,hx,dn.1 e⟩) h
theorem yR {cols:List Col}(hl:cols.length<=12){x:Ent}(h:aG cols x.row=0)(h1: -65536<=x.count)(h2:x.count<=65536):aV x=0:=
 qh.2 ⟨⟨h1,h2⟩,by rw[yj h];exact hl,λv hv=>by
  obtain ⟨i,hi,rfl⟩:=List.mem_iff_getElem.1 hv;exact sZ (zW h (List.getElem?_eq_getElem hi))⟩
structure Tb (cols:List Col) (L M:Nat) (r:List Ent):Prop where
 err:bP cols r=0
 len:r.length<=L
 top: ∀x∈r,x.count<=(M:Int)
theorem Tb.of {cols:List Col}(hl:cols.length<=12){zs:List Ent}(h:sV cols zs):Tb cols 1000 2000 zs:=
 ⟨(h.tab hl).2,(h.bag hl).2.2,λx hx=>((h.tab hl).1 x hx).2⟩
theorem Tb.bag {cols:List Col}{L M:Nat}{r:List Ent}(h:Tb cols L M r):aL r=0:=(aW h.err).1
theorem Tb.pos {cols:List Col}{L M:Nat}{r:List Ent}(h:Tb cols L M r): ∀x∈r,0<x.count/\x.count<=65536:=(dI (aW h.err).1 (aW h.err).2.1).2
theorem Tb.fit {cols:List Col}{L M:Nat}{r:List Ent}(h:Tb cols L M r): ∀x∈r,aG cols x.row=0:=(aW h.err).2.2
structure Mv (cols:List Col) (r x:List Ent) (m:Nat):Prop where
 bag:aL x=0
 fit: ∀e∈x,aG cols e.row=0
 low: ∀q,0<=cnt r q+cnt x q
 high: ∀q,cnt x q<=(m:Int)
 new: ∃bs:List Ent,bs.length<=m/\ ∀q,cnt r q=0->cnt x q≠0-> ∃e∈bs,e.row=q
theorem Mv.of {cols:List Col}(hl:cols.length<=12){old xs zs:List Ent}{q:Int}{L M m:Nat}(ht:Tb cols L M old)(hf: ∀x∈xs,aG cols x.row=0)(hc:LQ old m xs)(hn:yB xs q zs):Mv cols old zs m:=by
 obtain ⟨az,⟨ha1,ha2⟩,bs,rfl,hbl,hb1⟩:=hc;rw[List.take_of_length_le (Nat.le_refl _)]at ha2;have he: ∀x∈az++bs,aV x=0:=λx hx=>by
  have h1:=hf x hx;rcases List.mem_append.1 hx with hx|hx
  ·have:=(ha1 x hx).1;exact yR hl h1 (by omega) (by omega)
  ·have:=hb1 x hx;exact yR hl h1 (by omega) (by omega)
 have hn':=zK hn;rw[zJ he]at hn';have a:=Dh he;have b:=vW (P:=λr=>aG cols r=0) hf;have d:=EL (xs:=az++bs);have e:=EM (az++bs);simp only[hn']at a b d e;have hpos:=ht.pos;rcases e with e|⟨_,e⟩
 ·have c: ∀r,cnt zs r=cnt az r+cnt bs r:=λr=>by rw[d e r,uN]
  refine ⟨a,b,λr=>?_,λr=>?_,bs,by omega,λr h0 h1=>?_⟩
  ·have:=ha2 r;have:=(Jj hb1 r).1;rw[c];omega
  ·have:=(Jj hb1 r).2;have:=Tk (l:=az) (λx hx=>by have:=(ha1 x hx).1;omega) r;rw[c];omega
  ·refine Ji λh2=>h1 ?_;rw[c,h2];by_cases g:cnt az r=0
   ·omega
   ·obtain ⟨x,hx,rfl⟩:=Ji g;obtain ⟨_,p,hp,hpx⟩:=ha1 x hx;have h3:=(j6 ht.bag).mem hp;rw[hpx,h0]at h3;have:=hpos p hp;omega
 ·have e':zs=[]:=e;subst e';refine ⟨a,b,λr=>?_,λr=>by simp[cnt],[],by simp,λr _ h=>absurd rfl h⟩;have:=Tj (l:=old) (λx hx=>by have:=hpos x hx;omega) r;simp only[cnt];omega
end Go.Proofs.YtopjjlmfilgngaaGreatDoor
