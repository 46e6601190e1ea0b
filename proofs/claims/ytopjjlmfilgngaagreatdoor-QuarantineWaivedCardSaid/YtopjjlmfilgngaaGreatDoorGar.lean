/-
  quarantine.Waived (slices.ContainsFunc over waivers), ofRelation, otherOf, text; warehouseref30.Waived. CheckReferences, plain: the sum of two tables is a table; the check and its tables have no error; what a row that finds a partner is. Plain law: a table and a change of it: their sum is a table, and the opposite change leads back. No program is in sight.
-/
import Derived.Test.YtopjjlmfilgngaaGreatDoorGaq
import Derived.Test.YtopjjlmfilgngaaGreatDoorGad
import Derived.Test.YtopjjlmfilgngaaGreatDoorSame
import Derived.Test.YtopjjlmfilgngaaGreatDoorGap
import Derived.Test.YtopjjlmfilgngaaGreatDoorGal
import Derived.Test.YtopjjlmfilgngaaGreatDoorGae
import Derived.Test.YtopjjlmfilgngaaGreatDoorGao
import Derived.Test.YtopjjlmfilgngaaGreatDoorGan
import Derived.Test.YtopjjlmfilgngaaGreatDoorGaj
import Derived.Test.YtopjjlmfilgngaaGreatDoorGaa
import Derived.Test.YtopjjlmfilgngaaGreatDoorStk
import Derived.Test.YtopjjlmfilgngaaGreatDoorGac
import Derived.Test.YtopjjlmfilgngaaGreatDoorTabT
namespace Go.Proofs.YtopjjlmfilgngaaGreatDoor
set_option maxHeartbeats 4000000
set_option maxRecDepth 100000
open Go.RowKit
set_option linter.unusedSimpArgs false
set_option linter.unusedVariables false
theorem EP (w:World)(x:Wvr)(Ax:Option Addr)(nx cx:Nat)(hx:In w Ax nx cx x.row)(name:ByteArray)(g1:Nat)(h1:w.cell? ⟨g1,0,none⟩=some (.string name))(Ar:Option Addr)(nr cr:Nat)(row:List Val)(hr:In w Ar nr cr row)(g2:Nat)(h2:w.cell? ⟨g2,0,none⟩=some (.slice Ar nr cr)):
  Calls Tryz.prog 30 #[.agg #[.string x.check,.slice Ax nx cx],.pointer (some ⟨g1,0,none⟩),.pointer (some ⟨g2,0,none⟩)] w λe w'=>e=.returned (.bool (wQ name row x))/\Below w.heap.size w w':=by
 have HD:=hide (show wQ name row x=(x.check.toList==name.toList&&aj x.row row==0) from rfl);obtain ⟨R,hR⟩: ∃R,wQ name row x=R:=⟨_,rfl⟩;rw[hR]at HD⊢;clear hR;have L1:=lt_of_cell h1;have L2:=lt_of_cell h2;cases hc:(x.check.toList==name.toList)
 ·obtain rfl:R=false:=by rw[HD.out,hc];rfl
  go_enter Tryz.func30,Tryz.ntmps30;have L1:=lt_of_cell h1;have L2:=lt_of_cell h2;go_wp2_with fail;all_goals (try (exfalso;go_light;simp_all;done));go_ret;exact ⟨rfl,ae⟩
 ·have HQ:=hide (show R=(aj x.row row==0) from by rw[HD.out,hc];rfl);go_enter Tryz.func30,Tryz.ntmps30;have HX:=hide hx;clear hx;have HRW:=hide hr;clear hr;have L1:=lt_of_cell h1;have L2:=lt_of_cell h2;go_wp2_with fail;obtain ⟨W1,hW1⟩: ∃W,W=w.alloc (.cells #[.string x.check,.slice Ax nx cx] 33):=⟨_,rfl⟩;obtain ⟨hbW1,fA,x0,x1⟩:=pY hW1 rfl;rw[<-hW1];clear hW1;have o1:=uO (jP h1) (jP h2);have jg:=hide hbW1;clear hbW1;have LX:=lt_of_cell x0;obtain ⟨⟨L1,h1⟩,L2,h2⟩:=o1.out _ jg.out;go_wp2_with fail;refine (j4 _ Ax Ar nx nr cx cr x.row row (HX.out.below jg.out) (HRW.out.below jg.out)).mono ?_;rintro e w3 ⟨rfl,hb3⟩;have o4:=uO (jP h1) (uO (jP h2) (Bh x0 x1));have lc:=hide hb3;clear hb3;obtain ⟨Q,hQ⟩: ∃Q,aj x.row row=Q:=⟨_,rfl⟩;rw[hQ]at HQ⊢;clear hQ;obtain rfl:=HQ.out;obtain ⟨⟨L1,h1⟩,⟨L2,h2⟩,LX,x0,x1⟩:=o4.out _ lc.out;go_wp2;all_goals (try (exfalso;go_light;simp_all;done));go_ret;exact ⟨rfl,(aa jg.out lc.out)⟩
theorem rT (w:World)(A:Option Addr)(n c:Nat)(xs:List Wvr)(hx:In w A n c xs)(name:ByteArray)(g1:Nat)(h1:w.cell? ⟨g1,0,none⟩=some (.string name))(Ar:Option Addr)(nr cr:Nat)(row:List Val)(hr:In w Ar nr cr row)(g2:Nat)(h2:w.cell? ⟨g2,0,none⟩=some (.slice Ar nr cr)):
  Calls Tryz.prog 56 #[.slice A n c,.func (.func 30) #[] #[.pointer (some ⟨g1,0,none⟩),.pointer (some ⟨g2,0,none⟩)]] w
   λe w'=>e=.returned (.int .i64 (bH (wQ name row) 0 xs))/\Below w.heap.size w w':=by
 have h63:=hx.le;have L1:=lt_of_cell h1;have L2:=lt_of_cell h2;obtain ⟨P,hP⟩: ∃P,wQ name row=P:=⟨_,rfl⟩;have ET:=hide λW hb b n c x hx=>EP W x b n c hx name g1 (ah hb L1 h1) Ar nr cr row (hr.below hb) g2 (ah hb L2 h2);rw[hP]at ET;rw[hP];clear hP L1 L2 h1 h2 hr;go_enter Tryz.func56,Tryz.ntmps56;go_wp2;go_loopw [8] (λi wr=> ∃k:Nat,k<=n/\i=.int .i64 k/\bH P 0 xs=bH P k (xs.drop k)/\Below w.heap.size w wr) (λi _=>n-(intOf i).toNat)
 case atStart=>exact ⟨0,Nat.zero_le _,rfl,rfl,Below.refl _ _⟩
 case round=>
  obtain ⟨k,hk,rfl,heq,hb⟩:=hrel;have HE:=hide heq;clear heq;by_cases hlt':k<n
  ·obtain ⟨b,off,x,rfl,hB,HX,Ax,nx,cx,e0,e1,e2,e3⟩:=(hx.below hb).wvr hlt';have HE2:=hide e2;clear e2;go_wp2_with fail;refine (ET.out _ hb Ax nx cx x HE2.out).mono ?_;rintro e w1 ⟨rfl,hb1⟩;have hbb:=aa hb hb1;clear hb1 e0 e1;cases hz:P x
   ·go_wp2;all_goals (try (exfalso;go_light;simp_all;done));go_roundw
    case rel=>exact ⟨k+1,by omega,by go_num,by rw[HE.out,HX.out,bH,if_neg (by simp[hz])],hbb⟩
    case measure=>simp[intOf];omega
   ·go_wp2;all_goals (try (exfalso;go_light;simp_all;done));go_ret;exact ⟨ai (by rw[HE.out,HX.out,bH,if_pos hz]),hbb⟩
  ·go_wp2;go_ret;exact ⟨ai (by rw[HE.out,aM hx.len (by omega),bH]),hb⟩
theorem j3 (w:World)(A:Option Addr)(n c:Nat)(ws:List Wvr)(hx:In w A n c ws)(name:ByteArray)(Ar:Option Addr)(nr cr:Nat)(row:List Val)(hr:In w Ar nr cr row):
  Calls Tryz.prog 10 #[.slice A n c,.string name,.slice Ar nr cr] w λe w'=>e=.returned (.bool (dA ws name row))/\Below w.heap.size w w':=by
 have HN:=hide (mV (wQ name row) ws 0);have HD:=hide (show dA ws name row=ws.any (wQ name row) from rfl);obtain ⟨R,hR⟩: ∃R,dA ws name row=R:=⟨_,rfl⟩;rw[hR]at HD⊢;clear hR;have NI:Hid (∀(W:World),In W A n c ws->In W Ar nr cr row-> ∀(g1 g2:Nat),W.cell? ⟨g1,0,none⟩=some (.string name)->W.cell? ⟨g2,0,none⟩=some (.slice Ar nr cr)->
   Calls Tryz.prog 29 #[.slice A n c,.func (.func 30) #[] #[.pointer (some ⟨g1,0,none⟩),.pointer (some ⟨g2,0,none⟩)]] W λe w'=>e=.returned (.bool R)/\Below W.heap.size W w'):=hide (by
  intro W hx hr g1 g2 h1 h2;have Mr:=hide (rT W A n c ws hx name g1 h1 Ar nr cr row hr g2 h2);rw[HD.out,<-HN.out];obtain ⟨F,hF⟩: ∃F,bH (wQ name row) 0 ws=F:=⟨_,rfl⟩;rw[hF]at Mr;rw[hF];clear hF h1 h2 hx hr;go_enter Tryz.func29,Tryz.ntmps29;go_wp2_with fail;refine Mr.out.mono ?_;rintro e w1 ⟨rfl,hb1⟩;go_wp2;go_ret;exact ⟨rfl,hb1⟩)
 clear HN HD;go_enter Tryz.func10,Tryz.ntmps10;have HX:=hide hx;clear hx;have HRW:=hide hr;clear hr;go_wp2_with fail;obtain ⟨W1,hW1⟩: ∃W,W=w.alloc (.cells #[.string name] 9):=⟨_,rfl⟩;obtain ⟨hbW1,fA,x0⟩:=fC hW1 rfl;rw[<-hW1];clear hW1;have AZ:=hide hbW1;clear hbW1;have L1:=lt_of_cell x0;obtain ⟨W2,hW2⟩: ∃W,W=W1.alloc (.cells #[.slice Ar nr cr] 23):=⟨_,rfl⟩;obtain ⟨hbW2,y8,y0⟩:=fC (b:=w.heap.size+1) hW2 (by rw[fA.out]);rw[<-hW2];clear hW2;have o7:=jP x0;have rD:=hide hbW2;clear hbW2;have L2:=lt_of_cell y0;obtain ⟨L1,x0⟩:=o7.out _ rD.out;have X0:=x0;have Y0:=y0;go_wp2_with fail;have Dk:=hide (aa AZ.out rD.out);refine (NI.out _ (HX.out.below Dk.out) (HRW.out.below Dk.out) _ _ X0 Y0).mono ?_;rintro e w9 ⟨rfl,eH⟩;have AC:=uO (jP x0) (jP y0);have kz:=hide eH;clear eH;obtain ⟨⟨L1,x0⟩,L2,y0⟩:=AC.out _ kz.out;go_wp2;go_ret;exact ⟨rfl,(aa (aa AZ.out rD.out) kz.out)⟩
theorem ry (w:World)(A:Option Addr)(n c:Nat)(ws:List Wvr)(hx:In w A n c ws)(name:ByteArray)(Ar:Option Addr)(nr cr:Nat)(row:List Val)(hr:In w Ar nr cr row):
  Calls Tryz.prog 11 #[.slice A n c,.string name,.slice Ar nr cr] w λe w'=>e=.returned (.bool (dA ws name row))/\Below w.heap.size w w':=by
 have HD:=hide (show dA ws name row=ws.any (wQ name row) from rfl);obtain ⟨R,hR⟩: ∃R,dA ws name row=R:=⟨_,rfl⟩;rw[hR]at HD⊢;clear hR;have h63:=hx.le;go_enter Tryz.func11,Tryz.ntmps11;have HX:=hide hx;clear hx;have HRW:=hide hr;clear hr;go_wp2;go_loopw [7] (λi wr=> ∃k:Nat,k<=n/\i=.int .i64 k/\R=(ws.drop k).any (wQ name row)/\Below w.heap.size w wr) (λi _=>n-(intOf i).toNat)
 case atStart=>exact ⟨0,Nat.zero_le _,rfl,HD.out,Below.refl _ _⟩
 case round=>
  obtain ⟨k,hk,rfl,heq,hb⟩:=hrel;have HE:=hide heq;clear heq HD;have tZ:=hide hb;clear hb;by_cases hlt':k<n
  ·obtain ⟨b,off,x,rfl,hB,yw,Ax,nx,cx,e0,e1,e2,e3⟩:=(HX.out.below tZ.out).wvr hlt';have HE2:=hide e2;clear e2;have HW:Hid (wQ name row x=(x.check.toList==name.toList&&nE x.row row)):=hide rfl;have HN:Hid ((ws.drop k).any (wQ name row)=(wQ name row x || (ws.drop (k+1)).any (wQ name row))):=hide (by rw[yw.out,List.any_cons]);obtain ⟨N,hN⟩: ∃N,(ws.drop (k+1)).any (wQ name row)=N:=⟨_,rfl⟩;have C8:=hide hN;rw[hN]at HN;clear hN;cases hz:(x.check.toList==name.toList)
   ·have HR:Hid (R=N):=hide (by rw[HE.out,HN.out,HW.out,hz];rfl);go_wp2;all_goals (try (exfalso;go_light;simp_all;done));go_roundw
    case rel=>exact ⟨k+1,by omega,by go_num,by rw[HR.out,C8.out],tZ.out⟩
    case measure=>simp[intOf];omega
   ·go_wp2_with fail;refine (wF _ Ax Ar nx nr cx cr x.row row HE2.out (HRW.out.below tZ.out)).mono ?_;rintro e w1 ⟨⟨rr,rfl,hrr⟩,hb1⟩;obtain rfl:nE x.row row=rr:=by
     cases h:nE x.row row
     ·cases rr
      ·rfl
      ·exact absurd (jy.2 (hrr.1 rfl)) (by simp[h])
     ·exact (hrr.2 (jy.1 h)).symm
    clear hrr;have uV:=hide (aa tZ.out hb1);clear hb1;cases hv:nE x.row row
    ·have HR:Hid (R=N):=hide (by rw[HE.out,HN.out,HW.out,hz,hv];rfl);go_wp2;all_goals (try (exfalso;go_light;simp_all;done));go_roundw
     case rel=>exact ⟨k+1,by omega,by go_num,by rw[HR.out,C8.out],uV.out⟩
     case measure=>simp[intOf];omega
    ·obtain rfl:R=true:=by rw[HE.out,HN.out,HW.out,hz,hv];rfl
     go_wp2;all_goals (try (exfalso;go_light;simp_all;done));go_ret;exact ⟨rfl,uV.out⟩
  ·obtain rfl:R=false:=by rw[HE.out,aM HX.out.len (by omega)];rfl
   go_wp2;all_goals (try (exfalso;go_light;simp_all;done));go_ret;exact ⟨rfl,tZ.out⟩
theorem qX (w:World)(A:Option Addr)(n c:Nat)(row:List Val)(hx:In w A n c row):
  Calls Tryz.prog 38 #[.slice A n c] w λe w'=>e=.returned (.string (aI row))/\Below w.heap.size w w':=by
 have HT:=hide (show aI row=⟨(encS row).2.toArray⟩ from rfl);generalize aI row=R at*;go_enter Tryz.func38,Tryz.ntmps38;go_wp2_with fail;refine (qi _ A n c row (by exact hx)).mono ?_;rintro e w1 ⟨⟨v,rfl,ho⟩,hb⟩;obtain ⟨A1,c1,rfl⟩:=ho.form;have FH:=ve ho rfl;rw[<-HT.out]at FH;have HB:=hide hb;clear ho hb HT;go_wp2;go_ret;exact ⟨rfl,HB.out⟩
theorem Bu:Elem Tryz.prog 39 48 14 184:=jR (.agg #[.string ⟨#[]⟩,.string ⟨#[]⟩,.int .i64 0,.slice none 0 0,.string ⟨#[]⟩,.slice none 0 0,.int .i64 0,.int .i64 0,.slice none 0 0,.int .i64 0,.int .i64 0,.int .i64 0,.int .i64 0,.int .i64 0]) Tryz.underlying39 (by kernel_rfl) rfl (by decide)
theorem qL (w:World)(A:Option Addr)(n c:Nat)(cs:List Chk)(hx:In w A n c cs)(name:ByteArray)(hn:n<=4096):
  Calls Tryz.prog 34 #[.slice A n c,.string name] w
   λe w'=>(∃v,e=.returned v/\OL 48 w.heap.size (λ_=>True) [] w' v (lJ cs name))/\Below w.heap.size w w':=by
 obtain ⟨P,hP⟩: ∃P,ownB name=P:=⟨_,rfl⟩;have HP:=hide hP;have HD:Hid (lJ cs name=cs.filter P):=hide (by rw[<-hP];rfl);obtain ⟨R,hR⟩: ∃R,lJ cs name=R:=⟨_,rfl⟩;rw[hR]at HD⊢;clear hP hR;have h63:=hx.le;have HLEN:=hide hx.len;go_enter Tryz.func34,Tryz.ntmps34;have HX:=hide hx;clear hx;go_wp2;go_loopw [5,10] (λo i wr=> ∃(k:Nat) (ys:List Chk),k<=n/\i=.int .i64 k/\ys=(cs.take k).filter P/\ys.length<=k/\OL 48 w.heap.size (λ_=>True) [] wr o ys/\Below w.heap.size w wr) (λ_ i _=>n-(RowKit.intOf i).toNat)
 case atStart=>exact ⟨0,[],Nat.zero_le _,rfl,by simp,by simp,OL.nil (Nat.le_refl _),Below.refl _ _⟩
 case round=>
  obtain ⟨k,ys,hk,rfl,hys,hyl,hol,hb⟩:=hrel;have AO:=hide hys;have wZ:=hide hb;clear hys;by_cases hlt:k<n
  ·obtain ⟨bq,oq,y,rfl,hBb,yw,A1,n1,c1,A2,n2,c2,A3,n3,c3,⟨f0,f1,f2,f3,f4,f5,f6,f7,f8,f9,f10,f11,f12,f13⟩,i1,i2,i3,hok⟩:=HX.out.chk hlt;have I1:=hide i1;have I2:=hide i2;have I3:=hide i3;clear i1 i2 i3;have kv:=hide hb;clear hb;have yu:=hide hol;clear hol;have k0:(0:Int)<=(k:Int):=by omega
   have k1:(k:Int)<(n:Int):=by omega
   have e0:=ah wZ.out hBb f0;have e1:=ah wZ.out hBb f1;have e2:=ah wZ.out hBb f2;have e3:=ah wZ.out hBb f3;have e4:=ah wZ.out hBb f4;have e5:=ah wZ.out hBb f5;have e6:=ah wZ.out hBb f6;have e7:=ah wZ.out hBb f7;have e8:=ah wZ.out hBb f8;have e9:=ah wZ.out hBb f9;have e10:=ah wZ.out hBb f10;have e11:=ah wZ.out hBb f11;have e12:=ah wZ.out hBb f12;have e13:=ah wZ.out hBb f13;clear f0 f1 f2 f3 f4 f5 f6 f7 f8 f9 f10 f11 f12 f13;have tV:=hide hok;have Hm:Hid (P y=(y.table.toList==name.toList&&y.policy==0)):=hide (by rw[<-HP.out];rfl);clear hok;have Jh:=hyl;have BV:ys.length+1<=maxLen:=by simp only[maxLen];omega
   have BX:(ys.length+1)*184<=140737488355328:=by omega
   go_upto_region 5 with (fail);obtain ⟨W2,hW2⟩: ∃W,W=wr.alloc (.cells #[.string y.name,.string y.table,.int .i64 y.kind,.slice A1 n1 c1,.string y.other,.slice A2 n2 c2,.int .i64 y.low,.int .i64 y.high,.slice A3 n3 c3,.int .i64 y.ln,.int .i64 y.ld,.int .i64 y.mn,.int .i64 y.md,.int .i64 y.policy] 48):=⟨_,rfl⟩;obtain ⟨hbW2,y8,p0,p1,p2,p3,p4,p5,p6,p7,p8,p9,Fq,Fs,Fu,Fv⟩:=bV hW2 rfl;rw[<-hW2];clear hW2;have mJ:=hide hbW2;clear hbW2;have LP:=lt_of_cell p0;clear e0 e1 e2 e3 e4 e5 e6 e7 e8 e9 e10 e11 e12 e13;have FL:=hide (yu.out.below mJ.out);have l6:=hide (aa kv.out mJ.out);cases hv:P y
   ·have HN:Hid (ys=(cs.take (k+1)).filter P):=hide (by rw[bf yw.out,List.filter_append,AO.out,List.filter_cons_of_neg (by simp[hv])];simp);have hq:(y.table.toList==name.toList)=false\/((y.table.toList==name.toList)=true/\(y.policy==0)=false):=by
     have:=Hm.out;rw[hv]at this;cases h1:(y.table.toList==name.toList)
     ·exact .inl rfl
     ·exact .inr ⟨rfl,by rw[h1]at this;simpa using this⟩
    rcases hq with hq|⟨hq,hq2⟩
    ·go_wp2;all_goals (try (exfalso;go_light;simp_all;done));go_roundw
     case rel=>exact ⟨k+1,ys,by omega,by go_num,HN.out,by omega,FL.out,l6.out⟩
     case measure=>simp[RowKit.intOf];omega
    ·go_wp2;all_goals (try (exfalso;go_light;simp_all;done));go_roundw
     case rel=>exact ⟨k+1,ys,by omega,by go_num,HN.out,by omega,FL.out,l6.out⟩
     case measure=>simp[RowKit.intOf];omega
   ·have HN:Hid (ys++[y]=(cs.take (k+1)).filter P):=hide (by rw[bf yw.out,List.filter_append,AO.out,List.filter_cons_of_pos (by simp[hv])];simp);have hq:(y.table.toList==name.toList)=true/\(y.policy==0)=true:=by
     have:=Hm.out;rw[hv]at this;simpa using this.symm
    obtain ⟨hq1,hq2⟩:=hq;have Hr:Hid (Rep.rd W2 (BS w.heap.size (λ_=>True) [] W2) [.string y.name,.string y.table,.int .i64 y.kind,.slice A1 n1 c1,.string y.other,.slice A2 n2 c2,.int .i64 y.low,.int .i64 y.high,.slice A3 n3 c3,.int .i64 y.ln,.int .i64 y.ld,.int .i64 y.mn,.int .i64 y.md,.int .i64 y.policy] y):=hide ⟨A1,n1,c1,A2,n2,c2,A3,n3,c3,rfl,(Sl.keep (Same.below l6.out) I1.out).mono λk hk=>.inl ⟨trivial,hk⟩,(Sl.keep (Same.below l6.out) I2.out).mono λk hk=>.inl ⟨trivial,hk⟩,(Sl.keep (Same.below l6.out) I3.out).mono λk hk=>.inl ⟨trivial,hk⟩,tV.out⟩;go_wp2_with (at_builtin;refine aT _ rfl _ _ _ rfl Bu (by simp) W2 _ rfl FL.out rfl rfl y Hr.out BV BX ?_;intro v9 w9 lW eH mi gX);all_goals (try (exfalso;go_light;simp_all;done));have uS:=hide lW;have lI:=hide (l6.out.trans eH);clear lW eH mi gX;go_wp2;all_goals (try (exfalso;go_light;simp_all;done));go_roundw
    case rel=>exact ⟨k+1,ys++[y],by omega,by go_num,HN.out,by simp;omega,uS.out,lI.out⟩
    case measure=>simp[RowKit.intOf];omega
  ·obtain rfl:R=ys:=by rw[HD.out,AO.out,List.take_of_length_le (by rw[HLEN.out];omega)]
   have yY:=hide hol;go_wp2;go_ret;exact ⟨⟨_,rfl,yY.out⟩,wZ.out⟩
theorem mE {w:World}{g:Nat}{u0 u1 u2 u3 v0 v1 v2 v3:Value}(h0:w.cell? ⟨g,0,none⟩=some u0)(h1:w.cell? ⟨g,1,none⟩=some u1)(h2:w.cell? ⟨g,2,none⟩=some u2)(h3:w.cell? ⟨g,3,none⟩=some u3):
  ∀j v,[v0,v1,v2,v3][j]?=some v->((((w.setCell ⟨g,0,none⟩ v0).setCell ⟨g,1,none⟩ v1).setCell ⟨g,2,none⟩ v2).setCell ⟨g,3,none⟩ v3).cell? ⟨g,j,none⟩=some v:=by
 intro j v hv
 match j,hv with
 | 0,hv=>simp at hv;subst hv;exact af (af (af (bC h0) (.inr (by omega))) (.inr (by omega))) (.inr (by omega))
 | 1,hv=>simp at hv;subst hv;exact af (af (bC (af h1 (.inr (by omega)))) (.inr (by omega))) (.inr (by omega))
 | 2,hv=>simp at hv;subst hv;exact af (bC (af (af h2 (.inr (by omega))) (.inr (by omega)))) (.inr (by omega))
 | 3,hv=>simp at hv;subst hv;exact bC (af (af (af h3 (.inr (by omega))) (.inr (by omega))) (.inr (by omega)))
theorem ql {p:Rel->Bool}{l:List Rel}{k:Nat}{x:Rel}(h:l.drop k=x :: l.drop (k+1)):(l.drop k).find? p=if p x=true then some x else (l.drop (k+1)).find? p:=by
 rw[h,List.find?_cons];cases p x <;> rfl
theorem wy (w:World)(x:Chk)(A:Option Addr)(n c:Nat)(A':Option Addr)(n' c':Nat)(bN:Option Addr)(n'' c'':Nat)(A9:Option Addr)(n9 c9:Nat)(rs:List Rel)(hx:In w A9 n9 c9 rs):
  Calls Tryz.prog 52 #[.agg (aL x A n c A' n' c' bN n'' c'').toArray,.slice A9 n9 c9] w
   λe w'=>(∃on A2 n2 c2 Al nl cl A4 n4 c4,e=.returned (.tuple #[.agg #[.string on,.slice A2 n2 c2,.slice Al nl cl,.slice A4 n4 c4],.int .i64 (fI x rs).1])/\In w' A2 n2 c2 (fI x rs).2.columns/\In w' A4 n4 c4 (fI x rs).2.rows)/\Below w.heap.size w w':=by
 have HD:=hide (show fI x rs=if di x.other=true then (0,qI) else tF (rs.find? (EM x.other)) from rfl);obtain ⟨R,hR⟩: ∃R,fI x rs=R:=⟨_,rfl⟩;rw[hR]at HD⊢;clear hR;obtain ⟨P,hP⟩: ∃P,EM x.other=P:=⟨_,rfl⟩;have HP:=hide hP;rw[hP]at HD;clear hP;have h63:=hx.le;simp only[aL];cases hz:x.other.toList.isEmpty;rotate_left
 ·obtain rfl:R=(0,qI):=by rw[HD.out,if_pos (by rw[di];exact hz)]
  go_enter Tryz.func52,Tryz.ntmps52;go_upto_region 1 with (fail);obtain ⟨W1,hW1⟩: ∃W,W=w.alloc (.cells #[.string x.name,.string x.table,.int .i64 x.kind,.slice A n c,.string x.other,.slice A' n' c',.int .i64 x.low,.int .i64 x.high,.slice bN n'' c'',.int .i64 x.ln,.int .i64 x.ld,.int .i64 x.mn,.int .i64 x.md,.int .i64 x.policy] 48):=⟨_,rfl⟩;obtain ⟨hbW1,fA,g0,g1,g2,g3,g4,g5,g6,g7,g8,g9,g10,g11,g12,g13⟩:=bV hW1 rfl;rw[<-hW1];clear hW1;have jb:=hide hbW1;clear hbW1;have LR:=lt_of_cell g0;obtain ⟨W2,hW2⟩: ∃W,W=W1.alloc (.cells #[.string ⟨#[]⟩,.slice none 0 0,.slice none 0 0,.slice none 0 0] 29):=⟨_,rfl⟩;obtain ⟨hbW2,y8,z0,z1,z2,z3⟩:=gM (b:=w.heap.size+1) hW2 (by rw[fA.out]);have l9:Hid (bg W2 (w.heap.size+1) 29 4):=hide (by rw[<-fA.out,hW2];exact bg.made _ _ _ _ rfl);rw[<-hW2];clear hW2;have Mf:=lM g0 g1 g2 g3 g4 g5 g6 g7 g8 g9 g10 g11 g12 g13;have gL:=hide hbW2;clear hbW2;have L2:=lt_of_cell z0;have y0:=l9.out.frozen 0;have y1:=l9.out.frozen 1;have y2:=l9.out.frozen 2;have y3:=l9.out.frozen 3;have iK:=hide (aa jb.out gL.out);obtain ⟨LR,g0,g1,g2,g3,g4,g5,g6,g7,g8,g9,g10,g11,g12,g13⟩:=Mf.out _ gL.out;go_wp2;all_goals (try (exfalso;go_light;simp_all;done));have Ai:=hide ((((iK.out.setCell (p:=⟨w.heap.size+1,0,none⟩) (by simp) (.string ⟨#[]⟩)).setCell (p:=⟨w.heap.size+1,1,none⟩) (by simp) (.slice none 0 0)).setCell (p:=⟨w.heap.size+1,2,none⟩) (by simp) (.slice none 0 0)).setCell (p:=⟨w.heap.size+1,3,none⟩) (by simp) (.slice none 0 0));refine bodyPost_ret (v:=.tuple #[.agg #[.string ⟨#[]⟩,.slice none 0 0,.slice none 0 0,.slice none 0 0],.int .i64 0]) (cO (cs:=[.string ⟨#[]⟩,.slice none 0 0,.slice none 0 0,.slice none 0 0]) rfl _ _ _ _ _ rfl rfl (mE z0 z1 z2 z3) Tryz.underlying29 rfl (by kernel_rfl)) rfl ⟨⟨_,none,0,0,none,0,0,none,0,0,rfl,In.nil_,In.nil_⟩,Ai.out⟩
 have HD2:Hid (R=tF (rs.find? P)):=hide (by rw[HD.out,if_neg (by rw[di,hz];simp)]);clear HD;have HX0:=hide hx;go_enter Tryz.func52,Tryz.ntmps52;have HX:=hide hx;clear hx;go_upto_region 1 with (fail);obtain ⟨W1,hW1⟩: ∃W,W=w.alloc (.cells #[.string x.name,.string x.table,.int .i64 x.kind,.slice A n c,.string x.other,.slice A' n' c',.int .i64 x.low,.int .i64 x.high,.slice bN n'' c'',.int .i64 x.ln,.int .i64 x.ld,.int .i64 x.mn,.int .i64 x.md,.int .i64 x.policy] 48):=⟨_,rfl⟩;obtain ⟨hbW1,fA,g0,g1,g2,g3,g4,g5,g6,g7,g8,g9,g10,g11,g12,g13⟩:=bV hW1 rfl;rw[<-hW1];clear hW1;have jI:=hide hbW1;clear hbW1;have LR:=lt_of_cell g0;obtain ⟨W2,hW2⟩: ∃W,W=W1.alloc (.cells #[.string ⟨#[]⟩,.slice none 0 0,.slice none 0 0,.slice none 0 0] 29):=⟨_,rfl⟩;obtain ⟨hbW2,y8,z0,z1,z2,z3⟩:=gM (b:=w.heap.size+1) hW2 (by rw[fA.out]);have l9:Hid (bg W2 (w.heap.size+1) 29 4):=hide (by rw[<-fA.out,hW2];exact bg.made _ _ _ _ rfl);rw[<-hW2];clear hW2;have wU:=lM g0 g1 g2 g3 g4 g5 g6 g7 g8 g9 g10 g11 g12 g13;have gI:=hide hbW2;clear hbW2;have L2:=lt_of_cell z0;obtain ⟨LR,g0,g1,g2,g3,g4,g5,g6,g7,g8,g9,g10,g11,g12,g13⟩:=wU.out _ gI.out;go_wp2;all_goals (try (exfalso;go_light;simp_all;done));go_loopw [14] (λi wr=> ∃k:Nat,k<=n9/\i=.int .i64 k/\R=tF ((rs.drop k).find? P)/\Below W2.heap.size W2 wr) (λi _=>n9-(intOf i).toNat)
 case atStart=>exact ⟨0,Nat.zero_le _,rfl,HD2.out,Below.refl _ _⟩
 case round=>
  obtain ⟨k,hk,rfl,heq,hb⟩:=hrel;have HE:=hide heq;clear heq HD2;have o23:=uO (lM g0 g1 g2 g3 g4 g5 g6 g7 g8 g9 g10 g11 g12 g13) (mO z0 z1 z2 z3);have fP:=hide hb;clear hb;by_cases hlt':k<n9
  ·obtain ⟨b,off,y,rfl,hB,yw,B1,m1,d1,B2,m2,d2,B3,m3,d3,f0,f1,f2,f3,i1,i3⟩:=HX0.out.rel hlt';have HI1:=hide i1;have HI3:=hide i3;clear i1 i3;have e0:=ah (aa (aa jI.out gI.out) fP.out) hB f0;have e1:=ah (aa (aa jI.out gI.out) fP.out) hB f1;have e2:=ah (aa (aa jI.out gI.out) fP.out) hB f2;have e3:=ah (aa (aa jI.out gI.out) fP.out) hB f3;clear f0 f1 f2 f3;have k0:(0:Int)<=(k:Int):=by omega
   have k1:(k:Int)<(n9:Int):=by omega
   have Hm:Hid (P y=(y.name.toList==x.other.toList)):=hide (by rw[<-HP.out];rfl);obtain ⟨⟨LR,g0,g1,g2,g3,g4,g5,g6,g7,g8,g9,g10,g11,g12,g13⟩,L2,z0,z1,z2,z3⟩:=o23.out _ fP.out;go_upto_region 6 with (fail);obtain ⟨W5,mg⟩: ∃W,W=wr.alloc (.cells #[.string y.name,.slice B1 m1 d1,.slice B2 m2 d2,.slice B3 m3 d3] 29):=⟨_,rfl⟩;obtain ⟨iC,uX,x0,x1,x2,x3⟩:=gM mg rfl;rw[<-mg];clear mg;have gU:=hide (aa fP.out iC);clear iC;have L5:=lt_of_cell x0;cases hq:(y.name.toList==x.other.toList)
   ·have HN:Hid (R=tF ((rs.drop (k+1)).find? P)):=hide (by rw[HE.out,ql yw.out,if_neg (by rw[Hm.out,hq];simp)]);have Du:=hide gU.out;obtain ⟨⟨LR,g0,g1,g2,g3,g4,g5,g6,g7,g8,g9,g10,g11,g12,g13⟩,L2,z0,z1,z2,z3⟩:=o23.out _ gU.out;go_wp2;all_goals (try (exfalso;go_light;simp_all;done));go_roundw
    case rel=>exact ⟨k+1,by omega,by go_num,HN.out,Du.out⟩
    case measure=>simp[intOf];omega
   ·obtain rfl:R=(0,y):=by rw[HE.out,ql yw.out,if_pos (by rw[Hm.out,hq])];rfl
    have y0:=(l9.out.below gU.out).frozen 0;have y1:=(l9.out.below gU.out).frozen 1;have y2:=(l9.out.below gU.out).frozen 2;have y3:=(l9.out.below gU.out).frozen 3;have iK:=hide (aa (aa jI.out gI.out) gU.out);obtain ⟨⟨LR,g0,g1,g2,g3,g4,g5,g6,g7,g8,g9,g10,g11,g12,g13⟩,L2,z0,z1,z2,z3⟩:=o23.out _ gU.out;go_wp2;all_goals (try (exfalso;go_light;simp_all;done));have Ai:=hide ((((iK.out.setCell (p:=⟨w.heap.size+1,0,none⟩) (by simp) (.string y.name)).setCell (p:=⟨w.heap.size+1,1,none⟩) (by simp) (.slice B1 m1 d1)).setCell (p:=⟨w.heap.size+1,2,none⟩) (by simp) (.slice B2 m2 d2)).setCell (p:=⟨w.heap.size+1,3,none⟩) (by simp) (.slice B3 m3 d3));refine bodyPost_ret (v:=.tuple #[.agg #[.string y.name,.slice B1 m1 d1,.slice B2 m2 d2,.slice B3 m3 d3],.int .i64 0]) (cO (cs:=[.string y.name,.slice B1 m1 d1,.slice B2 m2 d2,.slice B3 m3 d3]) rfl _ _ _ _ _ rfl rfl (mE z0 z1 z2 z3) Tryz.underlying29 rfl (by kernel_rfl)) rfl ⟨⟨_,B1,m1,d1,B2,m2,d2,B3,m3,d3,rfl,HI1.out.below Ai.out,HI3.out.below Ai.out⟩,Ai.out⟩
  ·obtain rfl:R=(5,qI):=by rw[HE.out,aM HX.out.len (by omega)];rfl
   have y0:=(l9.out.below fP.out).frozen 0;have y1:=(l9.out.below fP.out).frozen 1;have y2:=(l9.out.below fP.out).frozen 2;have y3:=(l9.out.below fP.out).frozen 3;have iK:=hide (aa (aa jI.out gI.out) fP.out);obtain ⟨⟨LR,g0,g1,g2,g3,g4,g5,g6,g7,g8,g9,g10,g11,g12,g13⟩,L2,z0,z1,z2,z3⟩:=o23.out _ fP.out;go_wp2;all_goals (try (exfalso;go_light;simp_all;done));have Ai:=hide ((((iK.out.setCell (p:=⟨w.heap.size+1,0,none⟩) (by simp) (.string ⟨#[]⟩)).setCell (p:=⟨w.heap.size+1,1,none⟩) (by simp) (.slice none 0 0)).setCell (p:=⟨w.heap.size+1,2,none⟩) (by simp) (.slice none 0 0)).setCell (p:=⟨w.heap.size+1,3,none⟩) (by simp) (.slice none 0 0));refine bodyPost_ret (v:=.tuple #[.agg #[.string ⟨#[]⟩,.slice none 0 0,.slice none 0 0,.slice none 0 0],.int .i64 5]) (cO (cs:=[.string ⟨#[]⟩,.slice none 0 0,.slice none 0 0,.slice none 0 0]) rfl _ _ _ _ _ rfl rfl (mE z0 z1 z2 z3) Tryz.underlying29 rfl (by kernel_rfl)) rfl ⟨⟨_,none,0,0,none,0,0,none,0,0,rfl,In.nil_,In.nil_⟩,Ai.out⟩
theorem sG.cnt {cols:List Col}(hl:cols.length<=12){zs:List Ent}(h:sG cols zs)(r:List Val):0<=Proofs.YtopjjlmfilgngaaGreatDoor.cnt zs r/\Proofs.YtopjjlmfilgngaaGreatDoor.cnt zs r<=2000:=by
 have hb:=(h.bag hl).1;by_cases q: ∃x∈zs,x.row=r
 ·obtain ⟨x,hx,rfl⟩:=q;rw[(jN hb).mem hx];have:=(h.tab hl).1 x hx;omega
 ·rw[dP λx hx e=>q ⟨x,hx,aY.1 e⟩];omega
def wW (old:List Ent)(k:Nat)(xs:List Ent):Prop:=
 (∀x∈xs,(-65536<=x.count/\x.count<0)/\ ∃p∈old,p.row=x.row)/\ ∀r,0<=cnt (old.take k) r+cnt xs r
theorem CP {l:List Ent}{k:Nat}{x:Ent}(h:l.drop k=x :: l.drop (k+1))(r:List Val):cnt (l.take (k+1)) r=cnt (l.take k) r+(if aj x.row r=0 then x.count else 0):=by
 rw[bf h,pM];simp[cnt]
theorem wW.start (old:List Ent):wW old 0 []:=⟨(λx hx=>by cases hx),λr=>by simp[cnt]⟩
theorem wW.take {old xs:List Ent}{k:Nat}{p:Ent}(h:wW old k xs)(hx:old.drop k=p :: old.drop (k+1))(hp:p.count<=65536){d:Int}(d0:0<=d)(d1:d<p.count):wW old (k+1) (xs++[⟨p.row, -1-d⟩]):=by
 refine ⟨λy hy=>?_,λr=>?_⟩
 ·rcases List.mem_append.1 hy with hy|hy
  ·exact h.1 y hy
  ·simp at hy;subst hy;exact ⟨⟨by show -65536<= -1-d;omega,by show -1-d<0;omega⟩,p,aW hx,rfl⟩
 ·have:=h.2 r;rw[CP hx,pM];simp only[cnt]
  split <;> omega
def wX (az:List Ent)(s k:Nat)(xs:List Ent):Prop:= ∃bs:List Ent,xs=az++bs/\bs.length+k<=s/\ ∀x∈bs,x.count=1
theorem wX.start (az:List Ent)(s:Nat):wX az s s az:=⟨[],by simp,by simp,λx hx=>by cases hx⟩
theorem wX.add {az xs:List Ent}{s k:Nat}(h:wX az s k xs)(hk:0<k)(row:List Val):wX az s (k-1) (xs++[⟨row,1⟩]):=by
 obtain ⟨bs,rfl,h1,h2⟩:=h;refine ⟨bs++[⟨row,1⟩],by simp,by simp;omega,λx hx=>?_⟩;rcases List.mem_append.1 hx with hx|hx
 ·exact h2 x hx
 ·simp at hx;subst hx;rfl
def ER (old:List Ent)(m:Nat)(xs:List Ent):Prop:= ∃az,wW old old.length az/\wX az m 0 xs
theorem ER.mk {old az xs:List Ent}{n s m:Nat}(h:wW old n az)(hn:old.length=n)(h2:wX az s 0 xs)(hs:s<=m):ER old m xs:=by
 subst hn;obtain ⟨bs,h3,h4,h5⟩:=h2;exact ⟨az,h,bs,h3,by omega,h5⟩
structure Tb (cols:List Col) (L M:Nat) (r:List Ent):Prop where
 err:dz cols r=0
 len:r.length<=L
 top: ∀x∈r,x.count<=(M:Int)
theorem Tb.bag {cols:List Col}{L M:Nat}{r:List Ent}(h:Tb cols L M r):aA r=0:=(bB h.err).1
theorem Tb.pos {cols:List Col}{L M:Nat}{r:List Ent}(h:Tb cols L M r): ∀x∈r,0<x.count/\x.count<=65536:=(eB (bB h.err).1 (bB h.err).2.1).2
theorem Tb.fit {cols:List Col}{L M:Nat}{r:List Ent}(h:Tb cols L M r): ∀x∈r,aD cols x.row=0:=(bB h.err).2.2
end Go.Proofs.YtopjjlmfilgngaaGreatDoor
