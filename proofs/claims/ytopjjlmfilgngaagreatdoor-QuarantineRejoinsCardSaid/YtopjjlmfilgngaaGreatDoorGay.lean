/-
  quarantine.Rejoin and warehouseref30.Rejoin. quarantine.Waived (slices.ContainsFunc over waivers), ofRelation, otherOf, text; warehouseref30.Waived.
-/
import Derived.Test.YtopjjlmfilgngaaGreatDoorGau
import Derived.Test.YtopjjlmfilgngaaGreatDoorGar
import Derived.Test.YtopjjlmfilgngaaGreatDoorGax
import Derived.Test.YtopjjlmfilgngaaGreatDoorGac
import Derived.Test.YtopjjlmfilgngaaGreatDoorGad
import Derived.Test.YtopjjlmfilgngaaGreatDoorGan
import Derived.Test.YtopjjlmfilgngaaGreatDoorGao
import Derived.Test.YtopjjlmfilgngaaGreatDoorGal
import Derived.Test.YtopjjlmfilgngaaGreatDoorGae
import Derived.Test.YtopjjlmfilgngaaGreatDoorGaq
import Derived.Test.YtopjjlmfilgngaaGreatDoorGaj
import Derived.Test.YtopjjlmfilgngaaGreatDoorGaa
import Derived.Test.YtopjjlmfilgngaaGreatDoorStk
namespace Go.Proofs.YtopjjlmfilgngaaGreatDoor
set_option maxHeartbeats 4000000
set_option maxRecDepth 100000
open Go.RowKit Go.Maps
set_option linter.unusedSimpArgs false
set_option linter.unusedVariables false
theorem rejL_snoc {rel:ByteArray}{tab:List Ent}{held:List Quar}{k:Nat}{q:Quar}(h:held.drop k=q :: held.drop (k+1)):
  rejL rel tab (held.take (k+1))=if (q.relation.toList==rel.toList)=true then rejL rel tab (held.take k)++[⟨q.row,q.count⟩] else rejL rel tab (held.take k):=by
 rw[bN h,rejL,rejL,List.filter_append,List.map_append,<-List.append_assoc];cases hq:(q.relation.toList==rel.toList)
 ·simp[List.filter_cons,hq]
 ·simp[List.filter_cons,hq]
theorem rejL_len (rel:ByteArray)(tab:List Ent)(held:List Quar):(rejL rel tab held).length<=tab.length+held.length:=by
 rw[rejL,List.length_append,List.length_map];have:=List.length_filter_le (λq:Quar=>q.relation.toList==rel.toList) held;omega
theorem rejoin_any (w:World)(rel:ByteArray)(A:Option Addr)(n c:Nat)(tab:List Ent)(ht:In w A n c tab)(hn:n<=5000)(A2:Option Addr)(n2 c2:Nat)(held:List Quar)(hh:In w A2 n2 c2 held)(hn2:n2<=5000):
  Calls Tryz.prog 22 #[.string rel,.slice A n c,.slice A2 n2 c2] w
   λe w'=>(∃v,e=.returned (.tuple #[v,.int .i64 (Cr (rejL rel tab held)).1])/\OE w.heap.size w' v (Cr (rejL rel tab held)).2)/\Below w.heap.size w w':=by
 have HSN:=hide (λk q h=>rejL_snoc (rel:=rel) (tab:=tab) (held:=held) (k:=k) (q:=q) h);have fe:=hide (λk=>rejL_len rel tab (held.take k));have HLT:=hide ht.len;have HLH:=hide hh.len;have H0:Hid (tab=rejL rel tab (held.take 0)):=hide (by simp[rejL]);have HD:Hid (Cr (rejL rel tab held)=Cr (rejL rel tab (held.take n2))):=hide (by rw[List.take_of_length_le (by rw[HLH.out];exact Nat.le_refl _)]);obtain ⟨F,hF⟩: ∃F:Nat->List Ent,(λk=>rejL rel tab (held.take k))=F:=⟨_,rfl⟩;have hF': ∀k,rejL rel tab (held.take k)=F k:=λk=>congrFun hF k;rw[hF']at H0 HD;simp only[hF']at HSN fe;obtain ⟨R,hR⟩: ∃R,Cr (rejL rel tab held)=R:=⟨_,rfl⟩;rw[hR]at HD⊢;clear hR hF hF';go_enter Tryz.func22,Tryz.ntmps22;have HH:=hide hh;clear hh;have HT:=hide ht;clear ht;go_wp2_with fail;refine (clone_ents _ A n c tab HT.out (by omega)).mono ?_;rintro e w1 ⟨⟨A1,c1,rfl,ho1⟩,hb1⟩;rw[H0.out]at ho1;have Ht:=hide ho1;clear ho1;have lI:=hide hb1;clear hb1;have oM:=hide lI.out;go_wp2;go_loopw [8,15] (λv i wr=> ∃k:Nat,k<=n2/\i=.int .i64 k/\OL 50 w.heap.size (λ_=>True) [] wr v (F k)/\Below w.heap.size w wr) (λ_ i _=>n2-(RowKit.intOf i).toNat)
 case atStart=>exact ⟨0,Nat.zero_le _,rfl,Ht.out,oM.out⟩
 case round=>
  obtain ⟨k,hk,rfl,hol,hb⟩:=hrel;have xI:=hide hb;have BP:=hide hol;clear hol;by_cases hlt:k<n2
  ·obtain ⟨bq,oq,y,rfl,hBb,JU,A4,n4,c4,A5,n5,c5,f0,f1,f2,f3,i1,i2,hs1,hs2⟩:=HH.out.quar hlt;have I1:=hide i1;have k0:(0:Int)<=(k:Int):=by omega
   have k1:(k:Int)<(n2:Int):=by omega
   have e0:=aj xI.out hBb f0;have e1:=aj xI.out hBb f1;have e2:=aj xI.out hBb f2;have e3:=aj xI.out hBb f3;have HSN1:=hide (HSN.out k y JU.out);have hfl:=fe.out k;rw[List.length_take,HLT.out]at hfl;have FL:(F k).length+1<=maxLen:=by simp only[maxLen];omega
   have FM:(F k).length*32+32<=140737488355328:=by omega
   have Rx:((F k).length+1)*32<=140737488355328:=by omega
   clear f0 f1 f2 f3 i1 i2 hb;obtain ⟨W2,hW2⟩: ∃W,W=wr.alloc (.cells #[.string y.relation,.slice A4 n4 c4,.int .i64 y.count,.slice A5 n5 c5] 57):=⟨_,rfl⟩;have hb2:Below wr.heap.size wr W2:=by rw[hW2];exact ae
   have KQ:=hide (BP.out.below hb2);have HB2:=hide (aa xI.out hb2);have p0:W2.cell? ⟨wr.heap.size,0,none⟩=some (.string y.relation):=by rw[hW2];simp[go_sem]
   have p1:W2.cell? ⟨wr.heap.size,1,none⟩=some (.slice A4 n4 c4):=by rw[hW2];simp[go_sem]
   have p2:W2.cell? ⟨wr.heap.size,2,none⟩=some (.int .i64 y.count):=by rw[hW2];simp[go_sem]
   go_upto_region 5 with (fail);rw[<-hW2];clear hW2 hb2 e0 e1 e2 e3;cases hq:(y.relation.toList==rel.toList)
   ·have HN:Hid (F (k+1)=F k):=hide (by rw[HSN1.out,hq];rfl);go_wp2;all_goals (try (exfalso;go_light;simp_all;done));go_roundw
    case rel=>exact ⟨k+1,by omega,by go_num,by rw[HN.out];exact KQ.out,HB2.out⟩
    case measure=>simp[RowKit.intOf];omega
   ·have HN:Hid (F (k+1)=F k++[⟨y.row,y.count⟩]):=hide (by rw[HSN1.out,hq];rfl);have Nh:Hid (Rep.rd W2 (BS w.heap.size (λ_=>True) [] W2) [.slice A4 n4 c4,.int .i64 y.count] (⟨y.row,y.count⟩:Ent)):=hide ⟨A4,n4,c4,rfl,(Sl.keep (Same.below HB2.out) I1.out).mono λk hk=>.inl ⟨trivial,hk⟩,hs2⟩;go_wp2_with (at_builtin;refine bf _ rfl _ _ _ rfl vM (by simp) W2 _ rfl KQ.out rfl rfl (⟨y.row,y.count⟩:Ent) Nh.out FL Rx ?_;intro v9 w9 vV fo xe pE);all_goals (try (exfalso;go_light;simp_all;done));have Aa:=hide vV;have zZ:=hide (HB2.out.trans fo);clear vV fo xe pE;go_wp2;all_goals (try (exfalso;go_light;simp_all;done));go_roundw
    case rel=>exact ⟨k+1,by omega,by go_num,by rw[HN.out];exact Aa.out,zZ.out⟩
    case measure=>simp[RowKit.intOf];omega
  ·obtain rfl:k=n2:=by omega
   have hfl:=fe.out k;rw[List.length_take,HLT.out]at hfl;obtain ⟨A5,c5,hv,hin5⟩:=BP.out.inn;subst hv;have hl5:(F k).length<=1048576:=by omega
   have Qm:=hide hin5;have HD2:=hide HD.out;clear hin5 hfl;obtain ⟨xs,hxs⟩: ∃xs,F k=xs:=⟨_,rfl⟩;rw[hxs]at Qm hl5 HD2⊢;obtain ⟨m5,FP⟩: ∃m5,m5=xs.length:=⟨_,rfl⟩;rw[<-FP]at Qm hl5⊢;clear FP hxs;obtain rfl:=HD2.out;go_wp2_with fail;refine (normalize_any _ A5 m5 c5 xs (by exact Qm.out) hl5).mono ?_;rintro e w3 ⟨⟨v3,rfl,ho3⟩,hb3⟩;have Hu:=hide (ho3.rebase xI.out.size);have HB3:=hide (aa xI.out hb3);clear ho3 hb3;go_wp2;go_ret2;exact ⟨⟨_,rfl,Hu.out⟩,HB3.out⟩
theorem rejoin_ref (w:World)(rel:ByteArray)(A:Option Addr)(n c:Nat)(tab:List Ent)(ht:In w A n c tab)(hn:n<=5000)(A2:Option Addr)(n2 c2:Nat)(held:List Quar)(hh:In w A2 n2 c2 held)(hn2:n2<=5000):
  Calls Tryz.prog 23 #[.string rel,.slice A n c,.slice A2 n2 c2] w
   λe w'=>(∃A' m' c',e=.returned (.tuple #[.slice A' m' c',.int .i64 (Cr (rejL rel tab held)).1])/\In w' A' m' c' (Cr (rejL rel tab held)).2)/\Below w.heap.size w w':=by
 have HSN:=hide (λk q h=>rejL_snoc (rel:=rel) (tab:=tab) (held:=held) (k:=k) (q:=q) h);have fe:=hide (λk=>rejL_len rel tab (held.take k));have HLT:=hide ht.len;have HLH:=hide hh.len;have H0:Hid (tab=rejL rel tab (held.take 0)):=hide (by simp[rejL]);have HD:Hid (Cr (rejL rel tab held)=Cr (rejL rel tab (held.take n2))):=hide (by rw[List.take_of_length_le (by rw[HLH.out];exact Nat.le_refl _)]);obtain ⟨F,hF⟩: ∃F:Nat->List Ent,(λk=>rejL rel tab (held.take k))=F:=⟨_,rfl⟩;have hF': ∀k,rejL rel tab (held.take k)=F k:=λk=>congrFun hF k;rw[hF']at H0 HD;simp only[hF']at HSN fe;obtain ⟨R,hR⟩: ∃R,Cr (rejL rel tab held)=R:=⟨_,rfl⟩;rw[hR]at HD⊢;clear hR hF hF';obtain ⟨cs,h1,h2,h3,h4⟩:=cells_old ht rfl (Below.refl _ _);have H1:=hide h1;have H2:=hide h2;have H3:=hide h3;have H4:=hide h4;clear h1 h2 h3 h4;go_enter Tryz.func23,Tryz.ntmps23;have HH:=hide hh;clear hh;have HT:=hide ht;clear ht;go_wp2_with (at_builtin;refine kC _ rfl _ _ _ rfl vM (by simp) (OL.nil (B:=w.heap.size) (O:=λ_=>True) (T:=[]) (Nat.le_refl _)) rfl A n c cs tab rfl H3.out H2.out H1.out H4.out (by simp only[maxLen,List.length_nil];omega) (by simp only[List.length_nil];omega) ?_;intro v1 w1 ho1 hb1 hg1 nE);rw[List.nil_append,H0.out]at ho1;have Ht:=hide ho1;have oM:=hide hb1;clear ho1 hb1 hg1 nE;go_wp2;go_loopw [8,9] (λv i wr=> ∃k:Nat,k<=n2/\i=.int .i64 k/\OL 50 w.heap.size (λ_=>True) [] wr v (F k)/\Below w.heap.size w wr) (λ_ i _=>n2-(RowKit.intOf i).toNat)
 case atStart=>exact ⟨0,Nat.zero_le _,rfl,Ht.out,oM.out⟩
 case round=>
  obtain ⟨k,hk,rfl,hol,hb⟩:=hrel;have xI:=hide hb;have BP:=hide hol;clear hol;by_cases hlt:k<n2
  ·obtain ⟨bq,oq,y,rfl,hBb,JU,A4,n4,c4,A5,n5,c5,f0,f1,f2,f3,i1,i2,hs1,hs2⟩:=HH.out.quar hlt;have I1:=hide i1;have k0:(0:Int)<=(k:Int):=by omega
   have k1:(k:Int)<(n2:Int):=by omega
   have e0:=aj xI.out hBb f0;have e1:=aj xI.out hBb f1;have e2:=aj xI.out hBb f2;have HSN1:=hide (HSN.out k y JU.out);have hfl:=fe.out k;rw[List.length_take,HLT.out]at hfl;have FL:(F k).length+1<=maxLen:=by simp only[maxLen];omega
   have Rx:((F k).length+1)*32<=140737488355328:=by omega
   have F1:=hide f1;have F2:=hide f2;clear f0 f1 f2 f3 i1 i2 hb;cases hq:(y.relation.toList==rel.toList)
   ·have HN:Hid (F (k+1)=F k):=hide (by rw[HSN1.out,hq];rfl);go_wp2;all_goals (try (exfalso;go_light;simp_all;done));go_roundw
    case rel=>exact ⟨k+1,by omega,by go_num,by rw[HN.out];exact BP.out,xI.out⟩
    case measure=>simp[RowKit.intOf];omega
   ·have HN:Hid (F (k+1)=F k++[⟨y.row,y.count⟩]):=hide (by rw[HSN1.out,hq];rfl);go_upto_region 6 with (fail);go_region_held3 (λV=>V.cell? ⟨bq,oq+k*4+1,none⟩=some (.slice A4 n4 c4)/\V.cell? ⟨bq,oq+k*4+2,none⟩=some (.int .i64 y.count))
     (first|exact ⟨aj zZ.out hBb F1.out,aj zZ.out hBb F2.out⟩|exact ⟨e1,e2⟩|go_keep)
     (first|(refine xD _ rfl _ _ _ rfl vM (by simp) _ _ rfl (BP.out.below (Below.refl _ _).drew) (by simp[Act.eval,Act.put]) (by simp[Act.eval,Act.put]) (⟨y.row,y.count⟩:Ent) ⟨_,_,_,rfl,(Sl.keep (Same.below xI.out.drew) I1.out).mono λq hq=>.inl ⟨trivial,hq⟩,hs2⟩ FL Rx ?_;intro v9 w9 vV fo xe pE;have Aa:=hide vV;have zZ:=hide (xI.out.drew.trans fo);clear vV fo xe pE))
    go_wp2;go_roundw
    case rel=>exact ⟨k+1,by omega,by go_num,by rw[HN.out];exact Aa.out,zZ.out⟩
    case measure=>simp[RowKit.intOf];omega
  ·obtain rfl:k=n2:=by omega
   have hfl:=fe.out k;rw[List.length_take,HLT.out]at hfl;obtain ⟨A5,c5,hv,hin5⟩:=BP.out.inn;subst hv;have hl5:(F k).length<=1048576:=by omega
   have Qm:=hide hin5;have HD2:=hide HD.out;clear hin5 hfl;obtain ⟨xs,hxs⟩: ∃xs,F k=xs:=⟨_,rfl⟩;rw[hxs]at Qm hl5 HD2⊢;obtain ⟨m5,FP⟩: ∃m5,m5=xs.length:=⟨_,rfl⟩;rw[<-FP]at Qm hl5⊢;clear FP hxs;obtain rfl:=HD2.out;go_wp2_with fail;refine (u6 _ A5 m5 c5 xs (by exact Qm.out) hl5).mono ?_;rintro e w3 ⟨⟨v3,m3,zs,rfl,ho3,OH⟩,hb3⟩;obtain ⟨A6,c6,rfl,Oy⟩:=ho3.sl;have Uz:=hide Oy;have HNS:=hide (uh OH);have HB3:=hide (aa xI.out hb3);clear ho3 hb3 Oy OH;go_wp2;go_ret2;exact ⟨⟨A6,zs.length,c6,congrArg (λz=>Ending.returned (.tuple #[.slice A6 zs.length c6,.int .i64 z])) (show m3=(Cr xs).1 by rw[HNS.out]),by rw[show (Cr xs).2=zs by rw[HNS.out]];exact Uz.out⟩,HB3.out⟩
open Go.RowKit
theorem JL (w:World)(x:Wvr)(Ax:Option Addr)(nx cx:Nat)(hx:In w Ax nx cx x.row)(name:ByteArray)(g1:Nat)(h1:w.cell? ⟨g1,0,none⟩=some (.string name))(Ar:Option Addr)(nr cr:Nat)(row:List Val)(hr:In w Ar nr cr row)(g2:Nat)(h2:w.cell? ⟨g2,0,none⟩=some (.slice Ar nr cr)):
  Calls Tryz.prog 30 #[.agg #[.string x.check,.slice Ax nx cx],.pointer (some ⟨g1,0,none⟩),.pointer (some ⟨g2,0,none⟩)] w λe w'=>e=.returned (.bool (JK name row x))/\Below w.heap.size w w':=by
 have HD:=hide (show JK name row x=(x.check.toList==name.toList&&ah x.row row==0) from rfl);obtain ⟨R,hR⟩: ∃R,JK name row x=R:=⟨_,rfl⟩;rw[hR]at HD⊢;clear hR;have L1:=lt_of_cell h1;have L2:=lt_of_cell h2;cases hc:(x.check.toList==name.toList)
 ·obtain rfl:R=false:=by rw[HD.out,hc];rfl
  go_enter Tryz.func30,Tryz.ntmps30;have L1:=lt_of_cell h1;have L2:=lt_of_cell h2;go_wp2_with fail;all_goals (try (exfalso;go_light;simp_all;done));go_ret;exact ⟨rfl,ae⟩
 ·have HQ:=hide (show R=(ah x.row row==0) from by rw[HD.out,hc];rfl);go_enter Tryz.func30,Tryz.ntmps30;have HX:=hide hx;clear hx;have HRW:=hide hr;clear hr;have L1:=lt_of_cell h1;have L2:=lt_of_cell h2;go_wp2_with fail;obtain ⟨W1,hW1⟩: ∃W,W=w.alloc (.cells #[.string x.check,.slice Ax nx cx] 33):=⟨_,rfl⟩;obtain ⟨hbW1,gZ,x0,x1⟩:=wR hW1 rfl;rw[<-hW1];clear hW1;have o1:=xL (kM h1) (kM h2);have jv:=hide hbW1;clear hbW1;have LX:=lt_of_cell x0;obtain ⟨⟨L1,h1⟩,L2,h2⟩:=o1.out _ jv.out;go_wp2_with fail;refine (lw _ Ax Ar nx nr cx cr x.row row (HX.out.below jv.out) (HRW.out.below jv.out)).mono ?_;rintro e w3 ⟨rfl,hb3⟩;have o4:=xL (kM h1) (xL (kM h2) (EN x0 x1));have nD:=hide hb3;clear hb3;obtain ⟨Q,hQ⟩: ∃Q,ah x.row row=Q:=⟨_,rfl⟩;rw[hQ]at HQ⊢;clear hQ;obtain rfl:=HQ.out;obtain ⟨⟨L1,h1⟩,⟨L2,h2⟩,LX,x0,x1⟩:=o4.out _ nD.out;go_wp2;all_goals (try (exfalso;go_light;simp_all;done));go_ret;exact ⟨rfl,(aa jv.out nD.out)⟩
theorem uX (w:World)(A:Option Addr)(n c:Nat)(xs:List Wvr)(hx:In w A n c xs)(name:ByteArray)(g1:Nat)(h1:w.cell? ⟨g1,0,none⟩=some (.string name))(Ar:Option Addr)(nr cr:Nat)(row:List Val)(hr:In w Ar nr cr row)(g2:Nat)(h2:w.cell? ⟨g2,0,none⟩=some (.slice Ar nr cr)):
  Calls Tryz.prog 56 #[.slice A n c,.func (.func 30) #[] #[.pointer (some ⟨g1,0,none⟩),.pointer (some ⟨g2,0,none⟩)]] w
   λe w'=>e=.returned (.int .i64 (bU (JK name row) 0 xs))/\Below w.heap.size w w':=by
 have h63:=hx.le;have L1:=lt_of_cell h1;have L2:=lt_of_cell h2;obtain ⟨P,hP⟩: ∃P,JK name row=P:=⟨_,rfl⟩;have JO:=hide λW hb b n c x hx=>JL W x b n c hx name g1 (aj hb L1 h1) Ar nr cr row (hr.below hb) g2 (aj hb L2 h2);rw[hP]at JO;rw[hP];clear hP L1 L2 h1 h2 hr;go_enter Tryz.func56,Tryz.ntmps56;go_wp2;go_loopw [8] (λi wr=> ∃k:Nat,k<=n/\i=.int .i64 k/\bU P 0 xs=bU P k (xs.drop k)/\Below w.heap.size w wr) (λi _=>n-(intOf i).toNat)
 case atStart=>exact ⟨0,Nat.zero_le _,rfl,rfl,Below.refl _ _⟩
 case round=>
  obtain ⟨k,hk,rfl,heq,hb⟩:=hrel;have HE:=hide heq;clear heq;by_cases hlt':k<n
  ·obtain ⟨b,off,x,rfl,hB,HX,Ax,nx,cx,e0,e1,e2,e3⟩:=(hx.below hb).wvr hlt';have HE2:=hide e2;clear e2;go_wp2_with fail;refine (JO.out _ hb Ax nx cx x HE2.out).mono ?_;rintro e w1 ⟨rfl,hb1⟩;have hbb:=aa hb hb1;clear hb1 e0 e1;cases hz:P x
   ·go_wp2;all_goals (try (exfalso;go_light;simp_all;done));go_roundw
    case rel=>exact ⟨k+1,by omega,by go_num,by rw[HE.out,HX.out,bU,if_neg (by simp[hz])],hbb⟩
    case measure=>simp[intOf];omega
   ·go_wp2;all_goals (try (exfalso;go_light;simp_all;done));go_ret;exact ⟨ai (by rw[HE.out,HX.out,bU,if_pos hz]),hbb⟩
  ·go_wp2;go_ret;exact ⟨ai (by rw[HE.out,aD hx.len (by omega),bU]),hb⟩
theorem BM (w:World)(A:Option Addr)(n c:Nat)(ws:List Wvr)(hx:In w A n c ws)(name:ByteArray)(Ar:Option Addr)(nr cr:Nat)(row:List Val)(hr:In w Ar nr cr row):
  Calls Tryz.prog 10 #[.slice A n c,.string name,.slice Ar nr cr] w λe w'=>e=.returned (.bool (dD ws name row))/\Below w.heap.size w w':=by
 have HN:=hide (pu (JK name row) ws 0);have HD:=hide (show dD ws name row=ws.any (JK name row) from rfl);obtain ⟨R,hR⟩: ∃R,dD ws name row=R:=⟨_,rfl⟩;rw[hR]at HD⊢;clear hR;have Ui:Hid (∀(W:World),In W A n c ws->In W Ar nr cr row-> ∀(g1 g2:Nat),W.cell? ⟨g1,0,none⟩=some (.string name)->W.cell? ⟨g2,0,none⟩=some (.slice Ar nr cr)->
   Calls Tryz.prog 29 #[.slice A n c,.func (.func 30) #[] #[.pointer (some ⟨g1,0,none⟩),.pointer (some ⟨g2,0,none⟩)]] W λe w'=>e=.returned (.bool R)/\Below W.heap.size W w'):=hide (by
  intro W hx hr g1 g2 h1 h2;have Sc:=hide (uX W A n c ws hx name g1 h1 Ar nr cr row hr g2 h2);rw[HD.out,<-HN.out];obtain ⟨F,hF⟩: ∃F,bU (JK name row) 0 ws=F:=⟨_,rfl⟩;rw[hF]at Sc;rw[hF];clear hF h1 h2 hx hr;go_enter Tryz.func29,Tryz.ntmps29;go_wp2_with fail;refine Sc.out.mono ?_;rintro e w1 ⟨rfl,hb1⟩;go_wp2;go_ret;exact ⟨rfl,hb1⟩)
 clear HN HD;go_enter Tryz.func10,Tryz.ntmps10;have HX:=hide hx;clear hx;have HRW:=hide hr;clear hr;go_wp2_with fail;obtain ⟨W1,hW1⟩: ∃W,W=w.alloc (.cells #[.string name] 9):=⟨_,rfl⟩;obtain ⟨hbW1,gZ,x0⟩:=gJ hW1 rfl;rw[<-hW1];clear hW1;have BU:=hide hbW1;clear hbW1;have L1:=lt_of_cell x0;obtain ⟨W2,hW2⟩: ∃W,W=W1.alloc (.cells #[.slice Ar nr cr] 23):=⟨_,rfl⟩;obtain ⟨hbW2,CO,y0⟩:=gJ (b:=w.heap.size+1) hW2 (by rw[gZ.out]);rw[<-hW2];clear hW2;have o7:=kM x0;have xK:=hide hbW2;clear hbW2;have L2:=lt_of_cell y0;obtain ⟨L1,x0⟩:=o7.out _ xK.out;have X0:=x0;have Y0:=y0;go_wp2_with fail;have GY:=hide (aa BU.out xK.out);refine (Ui.out _ (HX.out.below GY.out) (HRW.out.below GY.out) _ _ X0 Y0).mono ?_;rintro e w9 ⟨rfl,fo⟩;have Em:=xL (kM x0) (kM y0);have jU:=hide fo;clear fo;obtain ⟨⟨L1,x0⟩,L2,y0⟩:=Em.out _ jU.out;go_wp2;go_ret;exact ⟨rfl,(aa (aa BU.out xK.out) jU.out)⟩
theorem uE (w:World)(A:Option Addr)(n c:Nat)(row:List Val)(hx:In w A n c row):
  Calls Tryz.prog 38 #[.slice A n c] w λe w'=>e=.returned (.string (aJ row))/\Below w.heap.size w w':=by
 have HT:=hide (show aJ row=⟨(encS row).2.toArray⟩ from rfl);generalize aJ row=R at*;go_enter Tryz.func38,Tryz.ntmps38;go_wp2_with fail;refine (sO _ A n c row (by exact hx)).mono ?_;rintro e w1 ⟨⟨v,rfl,ho⟩,hb⟩;obtain ⟨A1,c1,rfl⟩:=ho.form;have Ky:=yz ho rfl;rw[<-HT.out]at Ky;have HB:=hide hb;clear ho hb HT;go_wp2;go_ret;exact ⟨rfl,HB.out⟩
theorem EY:Elem Tryz.prog 39 48 14 184:=mM (.agg #[.string ⟨#[]⟩,.string ⟨#[]⟩,.int .i64 0,.slice none 0 0,.string ⟨#[]⟩,.slice none 0 0,.int .i64 0,.int .i64 0,.slice none 0 0,.int .i64 0,.int .i64 0,.int .i64 0,.int .i64 0,.int .i64 0]) Tryz.underlying39 (by kernel_rfl) rfl (by decide)
theorem uk (w:World)(A:Option Addr)(n c:Nat)(cs:List Chk)(hx:In w A n c cs)(name:ByteArray)(hn:n<=4096):
  Calls Tryz.prog 34 #[.slice A n c,.string name] w
   λe w'=>(∃v,e=.returned v/\OL 48 w.heap.size (λ_=>True) [] w' v (gQ cs name))/\Below w.heap.size w w':=by
 obtain ⟨P,hP⟩: ∃P,ownB name=P:=⟨_,rfl⟩;have HP:=hide hP;have HD:Hid (gQ cs name=cs.filter P):=hide (by rw[<-hP];rfl);obtain ⟨R,hR⟩: ∃R,gQ cs name=R:=⟨_,rfl⟩;rw[hR]at HD⊢;clear hP hR;have h63:=hx.le;have HLEN:=hide hx.len;go_enter Tryz.func34,Tryz.ntmps34;have HX:=hide hx;clear hx;go_wp2;go_loopw [5,10] (λo i wr=> ∃(k:Nat) (ys:List Chk),k<=n/\i=.int .i64 k/\ys=(cs.take k).filter P/\ys.length<=k/\OL 48 w.heap.size (λ_=>True) [] wr o ys/\Below w.heap.size w wr) (λ_ i _=>n-(RowKit.intOf i).toNat)
 case atStart=>exact ⟨0,[],Nat.zero_le _,rfl,by simp,by simp,OL.nil (Nat.le_refl _),Below.refl _ _⟩
 case round=>
  obtain ⟨k,ys,hk,rfl,hys,hyl,hol,hb⟩:=hrel;have Ew:=hide hys;have xI:=hide hb;clear hys;by_cases hlt:k<n
  ·obtain ⟨bq,oq,y,rfl,hBb,JU,A1,n1,c1,A2,n2,c2,A3,n3,c3,⟨f0,f1,f2,f3,f4,f5,f6,f7,f8,f9,f10,f11,f12,f13⟩,i1,i2,i3,hok⟩:=HX.out.chk hlt;have I1:=hide i1;have I2:=hide i2;have I3:=hide i3;clear i1 i2 i3;have nC:=hide hb;clear hb;have BP:=hide hol;clear hol;have k0:(0:Int)<=(k:Int):=by omega
   have k1:(k:Int)<(n:Int):=by omega
   have e0:=aj xI.out hBb f0;have e1:=aj xI.out hBb f1;have e2:=aj xI.out hBb f2;have e3:=aj xI.out hBb f3;have e4:=aj xI.out hBb f4;have e5:=aj xI.out hBb f5;have e6:=aj xI.out hBb f6;have e7:=aj xI.out hBb f7;have e8:=aj xI.out hBb f8;have e9:=aj xI.out hBb f9;have e10:=aj xI.out hBb f10;have e11:=aj xI.out hBb f11;have e12:=aj xI.out hBb f12;have e13:=aj xI.out hBb f13;clear f0 f1 f2 f3 f4 f5 f6 f7 f8 f9 f10 f11 f12 f13;have wM:=hide hok;have Nb:Hid (P y=(y.table.toList==name.toList&&y.policy==0)):=hide (by rw[<-HP.out];rfl);clear hok;have OW:=hyl;have FL:ys.length+1<=maxLen:=by simp only[maxLen];omega
   have FM:(ys.length+1)*184<=140737488355328:=by omega
   go_upto_region 5 with (fail);obtain ⟨W2,hW2⟩: ∃W,W=wr.alloc (.cells #[.string y.name,.string y.table,.int .i64 y.kind,.slice A1 n1 c1,.string y.other,.slice A2 n2 c2,.int .i64 y.low,.int .i64 y.high,.slice A3 n3 c3,.int .i64 y.ln,.int .i64 y.ld,.int .i64 y.mn,.int .i64 y.md,.int .i64 y.policy] 48):=⟨_,rfl⟩;obtain ⟨hbW2,CO,p0,p1,p2,p3,p4,p5,p6,p7,p8,p9,Kh,Ki,Kj,Kk⟩:=dn hW2 rfl;rw[<-hW2];clear hW2;have oQ:=hide hbW2;clear hbW2;have LP:=lt_of_cell p0;clear e0 e1 e2 e3 e4 e5 e6 e7 e8 e9 e10 e11 e12 e13;have KQ:=hide (BP.out.below oQ.out);have jr:=hide (aa nC.out oQ.out);cases hv:P y
   ·have HN:Hid (ys=(cs.take (k+1)).filter P):=hide (by rw[bN JU.out,List.filter_append,Ew.out,List.filter_cons_of_neg (by simp[hv])];simp);have hq:(y.table.toList==name.toList)=false\/((y.table.toList==name.toList)=true/\(y.policy==0)=false):=by
     have:=Nb.out;rw[hv]at this;cases h1:(y.table.toList==name.toList)
     ·exact .inl rfl
     ·exact .inr ⟨rfl,by rw[h1]at this;simpa using this⟩
    rcases hq with hq|⟨hq,hq2⟩
    ·go_wp2;all_goals (try (exfalso;go_light;simp_all;done));go_roundw
     case rel=>exact ⟨k+1,ys,by omega,by go_num,HN.out,by omega,KQ.out,jr.out⟩
     case measure=>simp[RowKit.intOf];omega
    ·go_wp2;all_goals (try (exfalso;go_light;simp_all;done));go_roundw
     case rel=>exact ⟨k+1,ys,by omega,by go_num,HN.out,by omega,KQ.out,jr.out⟩
     case measure=>simp[RowKit.intOf];omega
   ·have HN:Hid (ys++[y]=(cs.take (k+1)).filter P):=hide (by rw[bN JU.out,List.filter_append,Ew.out,List.filter_cons_of_pos (by simp[hv])];simp);have hq:(y.table.toList==name.toList)=true/\(y.policy==0)=true:=by
     have:=Nb.out;rw[hv]at this;simpa using this.symm
    obtain ⟨hq1,hq2⟩:=hq;have Nh:Hid (Rep.rd W2 (BS w.heap.size (λ_=>True) [] W2) [.string y.name,.string y.table,.int .i64 y.kind,.slice A1 n1 c1,.string y.other,.slice A2 n2 c2,.int .i64 y.low,.int .i64 y.high,.slice A3 n3 c3,.int .i64 y.ln,.int .i64 y.ld,.int .i64 y.mn,.int .i64 y.md,.int .i64 y.policy] y):=hide ⟨A1,n1,c1,A2,n2,c2,A3,n3,c3,rfl,(Sl.keep (Same.below jr.out) I1.out).mono λk hk=>.inl ⟨trivial,hk⟩,(Sl.keep (Same.below jr.out) I2.out).mono λk hk=>.inl ⟨trivial,hk⟩,(Sl.keep (Same.below jr.out) I3.out).mono λk hk=>.inl ⟨trivial,hk⟩,wM.out⟩;go_wp2_with (at_builtin;refine bf _ rfl _ _ _ rfl EY (by simp) W2 _ rfl KQ.out rfl rfl y Nh.out FL FM ?_;intro v9 w9 vV fo xe pE);all_goals (try (exfalso;go_light;simp_all;done));have Aa:=hide vV;have zZ:=hide (jr.out.trans fo);clear vV fo xe pE;go_wp2;all_goals (try (exfalso;go_light;simp_all;done));go_roundw
    case rel=>exact ⟨k+1,ys++[y],by omega,by go_num,HN.out,by simp;omega,Aa.out,zZ.out⟩
    case measure=>simp[RowKit.intOf];omega
  ·obtain rfl:R=ys:=by rw[HD.out,Ew.out,List.take_of_length_le (by rw[HLEN.out];omega)]
   have CF:=hide hol;go_wp2;go_ret;exact ⟨⟨_,rfl,CF.out⟩,xI.out⟩
theorem oH {w:World}{g:Nat}{u0 u1 u2 u3 v0 v1 v2 v3:Value}(h0:w.cell? ⟨g,0,none⟩=some u0)(h1:w.cell? ⟨g,1,none⟩=some u1)(h2:w.cell? ⟨g,2,none⟩=some u2)(h3:w.cell? ⟨g,3,none⟩=some u3):
  ∀j v,[v0,v1,v2,v3][j]?=some v->((((w.setCell ⟨g,0,none⟩ v0).setCell ⟨g,1,none⟩ v1).setCell ⟨g,2,none⟩ v2).setCell ⟨g,3,none⟩ v3).cell? ⟨g,j,none⟩=some v:=by
 intro j v hv
 match j,hv with
 | 0,hv=>simp at hv;subst hv;exact af (af (af (bK h0) (.inr (by omega))) (.inr (by omega))) (.inr (by omega))
 | 1,hv=>simp at hv;subst hv;exact af (af (bK (af h1 (.inr (by omega)))) (.inr (by omega))) (.inr (by omega))
 | 2,hv=>simp at hv;subst hv;exact af (bK (af (af h2 (.inr (by omega))) (.inr (by omega)))) (.inr (by omega))
 | 3,hv=>simp at hv;subst hv;exact bK (af (af (af h3 (.inr (by omega))) (.inr (by omega))) (.inr (by omega)))
theorem sQ {p:Rel->Bool}{l:List Rel}{k:Nat}{x:Rel}(h:l.drop k=x :: l.drop (k+1)):(l.drop k).find? p=if p x=true then some x else (l.drop (k+1)).find? p:=by
 rw[h,List.find?_cons];cases p x <;> rfl
theorem zB (w:World)(x:Chk)(A:Option Addr)(n c:Nat)(A':Option Addr)(n' c':Nat)(bX:Option Addr)(n'' c'':Nat)(A9:Option Addr)(n9 c9:Nat)(rs:List Rel)(hx:In w A9 n9 c9 rs):
  Calls Tryz.prog 52 #[.agg (aR x A n c A' n' c' bX n'' c'').toArray,.slice A9 n9 c9] w
   λe w'=>(∃on A2 n2 c2 Al nl cl A4 n4 c4,e=.returned (.tuple #[.agg #[.string on,.slice A2 n2 c2,.slice Al nl cl,.slice A4 n4 c4],.int .i64 (bQ x rs).1])/\In w' A2 n2 c2 (bQ x rs).2.columns/\In w' A4 n4 c4 (bQ x rs).2.rows)/\Below w.heap.size w w':=by
 have HD:=hide (show bQ x rs=if dx x.other=true then (0,tZ) else wC (rs.find? (Bv x.other)) from rfl);obtain ⟨R,hR⟩: ∃R,bQ x rs=R:=⟨_,rfl⟩;rw[hR]at HD⊢;clear hR;obtain ⟨P,hP⟩: ∃P,Bv x.other=P:=⟨_,rfl⟩;have HP:=hide hP;rw[hP]at HD;clear hP;have h63:=hx.le;simp only[aR];cases hz:x.other.toList.isEmpty;rotate_left
 ·obtain rfl:R=(0,tZ):=by rw[HD.out,if_pos (by rw[dx];exact hz)]
  go_enter Tryz.func52,Tryz.ntmps52;go_upto_region 1 with (fail);obtain ⟨W1,hW1⟩: ∃W,W=w.alloc (.cells #[.string x.name,.string x.table,.int .i64 x.kind,.slice A n c,.string x.other,.slice A' n' c',.int .i64 x.low,.int .i64 x.high,.slice bX n'' c'',.int .i64 x.ln,.int .i64 x.ld,.int .i64 x.mn,.int .i64 x.md,.int .i64 x.policy] 48):=⟨_,rfl⟩;obtain ⟨hbW1,gZ,g0,g1,g2,g3,g4,g5,g6,g7,g8,g9,g10,g11,g12,g13⟩:=dn hW1 rfl;rw[<-hW1];clear hW1;have lL:=hide hbW1;clear hbW1;have LR:=lt_of_cell g0;obtain ⟨W2,hW2⟩: ∃W,W=W1.alloc (.cells #[.string ⟨#[]⟩,.slice none 0 0,.slice none 0 0,.slice none 0 0] 29):=⟨_,rfl⟩;obtain ⟨hbW2,CO,z0,z1,z2,z3⟩:=jN (b:=w.heap.size+1) hW2 (by rw[gZ.out]);have nX:Hid (bF W2 (w.heap.size+1) 29 4):=hide (by rw[<-gZ.out,hW2];exact bF.made _ _ _ _ rfl);rw[<-hW2];clear hW2;have RU:=nK g0 g1 g2 g3 g4 g5 g6 g7 g8 g9 g10 g11 g12 g13;have kG:=hide hbW2;clear hbW2;have L2:=lt_of_cell z0;have y0:=nX.out.frozen 0;have y1:=nX.out.frozen 1;have y2:=nX.out.frozen 2;have y3:=nX.out.frozen 3;have oM:=hide (aa lL.out kG.out);obtain ⟨LR,g0,g1,g2,g3,g4,g5,g6,g7,g8,g9,g10,g11,g12,g13⟩:=RU.out _ kG.out;go_wp2;all_goals (try (exfalso;go_light;simp_all;done));have zQ:=hide ((((oM.out.setCell (p:=⟨w.heap.size+1,0,none⟩) (by simp) (.string ⟨#[]⟩)).setCell (p:=⟨w.heap.size+1,1,none⟩) (by simp) (.slice none 0 0)).setCell (p:=⟨w.heap.size+1,2,none⟩) (by simp) (.slice none 0 0)).setCell (p:=⟨w.heap.size+1,3,none⟩) (by simp) (.slice none 0 0));refine bodyPost_ret (v:=.tuple #[.agg #[.string ⟨#[]⟩,.slice none 0 0,.slice none 0 0,.slice none 0 0],.int .i64 0]) (dG (cs:=[.string ⟨#[]⟩,.slice none 0 0,.slice none 0 0,.slice none 0 0]) rfl _ _ _ _ _ rfl rfl (oH z0 z1 z2 z3) Tryz.underlying29 rfl (by kernel_rfl)) rfl ⟨⟨_,none,0,0,none,0,0,none,0,0,rfl,In.nil_,In.nil_⟩,zQ.out⟩
 have HD2:Hid (R=wC (rs.find? P)):=hide (by rw[HD.out,if_neg (by rw[dx,hz];simp)]);clear HD;have HX0:=hide hx;go_enter Tryz.func52,Tryz.ntmps52;have HX:=hide hx;clear hx;go_upto_region 1 with (fail);obtain ⟨W1,hW1⟩: ∃W,W=w.alloc (.cells #[.string x.name,.string x.table,.int .i64 x.kind,.slice A n c,.string x.other,.slice A' n' c',.int .i64 x.low,.int .i64 x.high,.slice bX n'' c'',.int .i64 x.ln,.int .i64 x.ld,.int .i64 x.mn,.int .i64 x.md,.int .i64 x.policy] 48):=⟨_,rfl⟩;obtain ⟨hbW1,gZ,g0,g1,g2,g3,g4,g5,g6,g7,g8,g9,g10,g11,g12,g13⟩:=dn hW1 rfl;rw[<-hW1];clear hW1;have kH:=hide hbW1;clear hbW1;have LR:=lt_of_cell g0;obtain ⟨W2,hW2⟩: ∃W,W=W1.alloc (.cells #[.string ⟨#[]⟩,.slice none 0 0,.slice none 0 0,.slice none 0 0] 29):=⟨_,rfl⟩;obtain ⟨hbW2,CO,z0,z1,z2,z3⟩:=jN (b:=w.heap.size+1) hW2 (by rw[gZ.out]);have nX:Hid (bF W2 (w.heap.size+1) 29 4):=hide (by rw[<-gZ.out,hW2];exact bF.made _ _ _ _ rfl);rw[<-hW2];clear hW2;have zV:=nK g0 g1 g2 g3 g4 g5 g6 g7 g8 g9 g10 g11 g12 g13;have jq:=hide hbW2;clear hbW2;have L2:=lt_of_cell z0;obtain ⟨LR,g0,g1,g2,g3,g4,g5,g6,g7,g8,g9,g10,g11,g12,g13⟩:=zV.out _ jq.out;go_wp2;all_goals (try (exfalso;go_light;simp_all;done));go_loopw [14] (λi wr=> ∃k:Nat,k<=n9/\i=.int .i64 k/\R=wC ((rs.drop k).find? P)/\Below W2.heap.size W2 wr) (λi _=>n9-(intOf i).toNat)
 case atStart=>exact ⟨0,Nat.zero_le _,rfl,HD2.out,Below.refl _ _⟩
 case round=>
  obtain ⟨k,hk,rfl,heq,hb⟩:=hrel;have HE:=hide heq;clear heq HD2;have MJ:=xL (nK g0 g1 g2 g3 g4 g5 g6 g7 g8 g9 g10 g11 g12 g13) (rJ z0 z1 z2 z3);have gY:=hide hb;clear hb;by_cases hlt':k<n9
  ·obtain ⟨b,off,y,rfl,hB,JU,B1,m1,d1,B2,m2,d2,B3,m3,d3,f0,f1,f2,f3,i1,i3⟩:=HX0.out.rel hlt';have HI1:=hide i1;have HI3:=hide i3;clear i1 i3;have e0:=aj (aa (aa kH.out jq.out) gY.out) hB f0;have e1:=aj (aa (aa kH.out jq.out) gY.out) hB f1;have e2:=aj (aa (aa kH.out jq.out) gY.out) hB f2;have e3:=aj (aa (aa kH.out jq.out) gY.out) hB f3;clear f0 f1 f2 f3;have k0:(0:Int)<=(k:Int):=by omega
   have k1:(k:Int)<(n9:Int):=by omega
   have Nb:Hid (P y=(y.name.toList==x.other.toList)):=hide (by rw[<-HP.out];rfl);obtain ⟨⟨LR,g0,g1,g2,g3,g4,g5,g6,g7,g8,g9,g10,g11,g12,g13⟩,L2,z0,z1,z2,z3⟩:=MJ.out _ gY.out;go_upto_region 6 with (fail);obtain ⟨W5,nZ⟩: ∃W,W=wr.alloc (.cells #[.string y.name,.slice B1 m1 d1,.slice B2 m2 d2,.slice B3 m3 d3] 29):=⟨_,rfl⟩;obtain ⟨jg,yf,x0,x1,x2,x3⟩:=jN nZ rfl;rw[<-nZ];clear nZ;have iM:=hide (aa gY.out jg);clear jg;have L5:=lt_of_cell x0;cases hq:(y.name.toList==x.other.toList)
   ·have HN:Hid (R=wC ((rs.drop (k+1)).find? P)):=hide (by rw[HE.out,sQ JU.out,if_neg (by rw[Nb.out,hq];simp)]);have Et:=hide iM.out;obtain ⟨⟨LR,g0,g1,g2,g3,g4,g5,g6,g7,g8,g9,g10,g11,g12,g13⟩,L2,z0,z1,z2,z3⟩:=MJ.out _ iM.out;go_wp2;all_goals (try (exfalso;go_light;simp_all;done));go_roundw
    case rel=>exact ⟨k+1,by omega,by go_num,HN.out,Et.out⟩
    case measure=>simp[intOf];omega
   ·obtain rfl:R=(0,y):=by rw[HE.out,sQ JU.out,if_pos (by rw[Nb.out,hq])];rfl
    have y0:=(nX.out.below iM.out).frozen 0;have y1:=(nX.out.below iM.out).frozen 1;have y2:=(nX.out.below iM.out).frozen 2;have y3:=(nX.out.below iM.out).frozen 3;have oM:=hide (aa (aa kH.out jq.out) iM.out);obtain ⟨⟨LR,g0,g1,g2,g3,g4,g5,g6,g7,g8,g9,g10,g11,g12,g13⟩,L2,z0,z1,z2,z3⟩:=MJ.out _ iM.out;go_wp2;all_goals (try (exfalso;go_light;simp_all;done));have zQ:=hide ((((oM.out.setCell (p:=⟨w.heap.size+1,0,none⟩) (by simp) (.string y.name)).setCell (p:=⟨w.heap.size+1,1,none⟩) (by simp) (.slice B1 m1 d1)).setCell (p:=⟨w.heap.size+1,2,none⟩) (by simp) (.slice B2 m2 d2)).setCell (p:=⟨w.heap.size+1,3,none⟩) (by simp) (.slice B3 m3 d3));refine bodyPost_ret (v:=.tuple #[.agg #[.string y.name,.slice B1 m1 d1,.slice B2 m2 d2,.slice B3 m3 d3],.int .i64 0]) (dG (cs:=[.string y.name,.slice B1 m1 d1,.slice B2 m2 d2,.slice B3 m3 d3]) rfl _ _ _ _ _ rfl rfl (oH z0 z1 z2 z3) Tryz.underlying29 rfl (by kernel_rfl)) rfl ⟨⟨_,B1,m1,d1,B2,m2,d2,B3,m3,d3,rfl,HI1.out.below zQ.out,HI3.out.below zQ.out⟩,zQ.out⟩
  ·obtain rfl:R=(5,tZ):=by rw[HE.out,aD HX.out.len (by omega)];rfl
   have y0:=(nX.out.below gY.out).frozen 0;have y1:=(nX.out.below gY.out).frozen 1;have y2:=(nX.out.below gY.out).frozen 2;have y3:=(nX.out.below gY.out).frozen 3;have oM:=hide (aa (aa kH.out jq.out) gY.out);obtain ⟨⟨LR,g0,g1,g2,g3,g4,g5,g6,g7,g8,g9,g10,g11,g12,g13⟩,L2,z0,z1,z2,z3⟩:=MJ.out _ gY.out;go_wp2;all_goals (try (exfalso;go_light;simp_all;done));have zQ:=hide ((((oM.out.setCell (p:=⟨w.heap.size+1,0,none⟩) (by simp) (.string ⟨#[]⟩)).setCell (p:=⟨w.heap.size+1,1,none⟩) (by simp) (.slice none 0 0)).setCell (p:=⟨w.heap.size+1,2,none⟩) (by simp) (.slice none 0 0)).setCell (p:=⟨w.heap.size+1,3,none⟩) (by simp) (.slice none 0 0));refine bodyPost_ret (v:=.tuple #[.agg #[.string ⟨#[]⟩,.slice none 0 0,.slice none 0 0,.slice none 0 0],.int .i64 5]) (dG (cs:=[.string ⟨#[]⟩,.slice none 0 0,.slice none 0 0,.slice none 0 0]) rfl _ _ _ _ _ rfl rfl (oH z0 z1 z2 z3) Tryz.underlying29 rfl (by kernel_rfl)) rfl ⟨⟨_,none,0,0,none,0,0,none,0,0,rfl,In.nil_,In.nil_⟩,zQ.out⟩
end Go.Proofs.YtopjjlmfilgngaaGreatDoor
