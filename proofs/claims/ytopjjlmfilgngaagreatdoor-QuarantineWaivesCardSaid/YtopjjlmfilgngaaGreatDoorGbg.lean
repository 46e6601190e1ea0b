/-
  warehouselaw30: row, columns; its closed example. Chapter 30: what lies above the numbers' blocks stays; its tables. warehouselaw30.made: what its loops keep. No walk stands here.
-/
import Derived.Test.YtopjjlmfilgngaaGreatDoorGbe
import Derived.Test.YtopjjlmfilgngaaGreatDoorGbf
import Derived.Test.YtopjjlmfilgngaaGreatDoorGam
import Derived.Test.YtopjjlmfilgngaaGreatDoorGae
import Derived.Test.YtopjjlmfilgngaaGreatDoorBlk
import Derived.Test.YtopjjlmfilgngaaGreatDoorGaw
import Derived.Test.YtopjjlmfilgngaaGreatDoorGaf
namespace Go.Proofs.YtopjjlmfilgngaaGreatDoor
set_option maxHeartbeats 4000000
set_option maxRecDepth 100000
open Go.RowKit Go.Maps
set_option linter.unusedSimpArgs false
set_option linter.unusedVariables false
theorem Jv {n:Int}(h0:0<=n)(h1:n<=1000):Val.ok (iV n):=⟨⟨by show (-9223372036854775808:Int)<=2;decide,by show (2:Int)<=9223372036854775807;decide⟩,⟨by show (-9223372036854775808:Int)<=n;omega,by show n<=(9223372036854775807:Int);omega⟩,by show (⟨#[]⟩:ByteArray).size<=9223372036854775807;decide⟩
theorem kZ (w:World)(a b:Int)(ha:0<=a)(ha2:a<=1000)(hb:0<=b)(hb2:b<=1000):Calls Tryz.prog 28 #[.int .i64 a,.int .i64 b] w
  λe w'=>(∃A c,e=.returned (.slice A 2 c)/\OL 36 w.heap.size (λ_=>False) [] w' (.slice A 2 c) [iV a,iV b])/\Below w.heap.size w w':=by
 have va:=Jv ha ha2;have vb:=Jv hb hb2;go_enter Tryz.func28,Tryz.ntmps28;go_wp2;go_ret;exact ⟨⟨_,_,rfl,OL.built (Nat.le_refl _) (by decide) rfl rfl ⟨[_,_,_],[_,_,_],rfl,⟨rfl,va⟩,Cells.one ⟨rfl,vb⟩⟩⟩,ae⟩
theorem lq (w:World):Calls Tryz.prog 18 #[] w
  λe w'=>(e=.returned (.slice (some ⟨w.heap.size,0,none⟩) 3 3)/\In w' (some ⟨w.heap.size,0,none⟩) 3 3 gV)/\Below w.heap.size w w':=by
 go_enter Tryz.func18,Tryz.ntmps18;go_wp2;go_ret;exact ⟨⟨rfl,iZ (heap_alloc_new w _) (GU gV _ _ λx hx=>(EQ x hx).1) rfl (by decide)⟩,ae⟩
theorem Tt {V:World}{g:Nat}{A1 A2 A3:Option Addr}{d1 d2 d3:Nat}(hb:dC V g 50 [.slice A1 2 d1,.int .i64 1,.slice A2 2 d2,.int .i64 1,.slice A3 2 d3,.int .i64 3])(h1:In V A1 2 d1 [iV 1,iV 1])(h2:In V A2 2 d2 [iV 1,iV 2])(h3:In V A3 2 d3 [iV 2,iV 9]):In V (some ⟨g,0,none⟩) 3 3 DI:=
 iZ hb ⟨[_,_],[_,_,_,_],rfl,⟨_,_,_,rfl,h1,⟨by decide,by decide⟩⟩,[_,_],[_,_],rfl,⟨_,_,_,rfl,h2,⟨by decide,by decide⟩⟩,Cells.one ⟨_,_,_,rfl,h3,⟨by decide,by decide⟩⟩⟩ rfl (by decide)
theorem Ub {V:World}{g:Nat}{A1 A2:Option Addr}{d1 d2:Nat}(hb:dC V g 33 [.string ⟨#[117]⟩,.slice A1 2 d1,.string ⟨#[117]⟩,.slice A2 2 d2])(h1:In V A1 2 d1 [iV 1,iV 2])(h2:In V A2 2 d2 [iV 2,iV 9]):In V (some ⟨g,0,none⟩) 2 2 NR:=
 iZ hb ⟨[_,_],[_,_],rfl,⟨_,_,_,rfl,h1,by show (⟨#[117]⟩:ByteArray).size<=9223372036854775807;decide⟩,Cells.one ⟨_,_,_,rfl,h2,by show (⟨#[117]⟩:ByteArray).size<=9223372036854775807;decide⟩⟩ rfl (by decide)
theorem P6 {V:World}{g:Nat}(hb:dC V g 82 [.string ⟨#[97]⟩,.int .i64 2,.bool false,.string ⟨#[98]⟩,.int .i64 2,.bool false]):In V (some ⟨g,0,none⟩) 2 2 DF:=by
 have h1: ∀V:World,Rep.rd V (λk=>k<V.heap.size) [.string ⟨#[97]⟩,.int .i64 2,.bool false] (⟨⟨#[97]⟩,2,false⟩:Col):=λV=>
  ⟨rfl,⟨by show (⟨#[97]⟩:ByteArray).size<=9223372036854775807;decide,by show (-9223372036854775808:Int)<=2;decide,by show (2:Int)<=9223372036854775807;decide⟩⟩
 have h2: ∀V:World,Rep.rd V (λk=>k<V.heap.size) [.string ⟨#[98]⟩,.int .i64 2,.bool false] (⟨⟨#[98]⟩,2,false⟩:Col):=λV=>
  ⟨rfl,⟨by show (⟨#[98]⟩:ByteArray).size<=9223372036854775807;decide,by show (-9223372036854775808:Int)<=2;decide,by show (2:Int)<=9223372036854775807;decide⟩⟩
 exact iZ hb ⟨[_,_,_],[_,_,_],rfl,h1 _,Cells.one (h2 _)⟩ rfl (by decide)
theorem Od {V:World}{g:Nat}{s:ByteArray}(hs:s.size<=8)(hb:dC V g 9 [.string s]):In V (some ⟨g,0,none⟩) 1 1 [s]:=
 iZ hb (Cells.one ⟨rfl,by show s.size<=9223372036854775807;omega⟩) rfl (by decide)
theorem gQ:eZ 0/\eZ 1/\eZ 2/\eZ 3/\eZ 4/\eZ 5/\Str ⟨#[]⟩/\Str ⟨#[117]⟩/\Str ⟨#[103]⟩/\Str nR/\Str nO:=by
 refine ⟨⟨?_,?_⟩,⟨?_,?_⟩,⟨?_,?_⟩,⟨?_,?_⟩,⟨?_,?_⟩,⟨?_,?_⟩,?_,?_,?_,?_,?_⟩ <;> first|decide|(unfold Str;decide)
theorem P7 {V:World}{g ga gb:Nat}(hb:dC V g 48 [.string ⟨#[117]⟩,.string ⟨#[114]⟩,.int .i64 0,.slice (some ⟨ga,0,none⟩) 1 1,.string ⟨#[]⟩,.slice none 0 0,.int .i64 0,.int .i64 0,.slice none 0 0,.int .i64 0,.int .i64 0,.int .i64 0,.int .i64 0,.int .i64 0,.string ⟨#[103]⟩,.string ⟨#[114]⟩,.int .i64 2,.slice (some ⟨gb,0,none⟩) 1 1,.string ⟨#[]⟩,.slice none 0 0,.int .i64 0,.int .i64 5,.slice none 0 0,.int .i64 0,.int .i64 0,.int .i64 0,.int .i64 0,.int .i64 0])(h1:In V (some ⟨ga,0,none⟩) 1 1 [(⟨#[97]⟩:ByteArray)])(h2:In V (some ⟨gb,0,none⟩) 1 1 [(⟨#[98]⟩:ByteArray)]):In V (some ⟨g,0,none⟩) 2 2 [Kv,Kw]:=by
 obtain ⟨i0,i1,i2,i3,i4,i5,s0,s1,s2,s3,_⟩:=gQ;exact iZ hb ⟨[_,_,_,_,_,_,_,_,_,_,_,_,_,_],[_,_,_,_,_,_,_,_,_,_,_,_,_,_],rfl,⟨_,_,_,_,_,_,_,_,_,rfl,h1,In.nil_,In.nil_,s1,s3,i0,s0,i0,i0,i0,i0,i0,i0,i0⟩,Cells.one ⟨_,_,_,_,_,_,_,_,_,rfl,h2,In.nil_,In.nil_,s2,s3,i2,s0,i0,i5,i0,i0,i0,i0,i0⟩⟩ rfl (by decide)
theorem lI (w:World)(hw:Words w):
  Calls Tryz.prog 9 #[] w λe w'=>e=.returned (.bool true)/\Below w.heap.size w w':=by
 have PD:=hide λW A1 (hc:In W A1 2 2 DF) A3 (hr:In W A3 3 3 DI) Ac (hl:In W Ac 2 2 [Kv,Kw]) Aw (hws:In W Aw 2 2 NR) (hw:Words W)=>yO W TN A1 2 2 hc none 0 0 A3 3 3 hr Ac 2 2 [Kv,Kw] hl none 0 0 [] In.nil_ Aw 2 2 NR hws none 0 0 [] In.nil_ hw (by omega) (by omega) (by simp[Kv,Kw]) (by simp) gQ.2.2.2.2.2.2.2.2.2.1;obtain ⟨d1,d2,d3,d4,d5,d6,d7,d8,d9,XM,XN⟩:=QX;rw[show Bj TN [Kv,Kw] [] NR []=wG from rfl]at PD;obtain ⟨⟨DE,DT,DQ⟩,hD⟩: ∃q,wG=q:=⟨_,rfl⟩;rw[hD]at PD d1 d2 d3 d4 d5 d6 d7 d8 d9 XM XN;obtain rfl:DE=0:=d1;obtain ⟨y,hy⟩: ∃y,DT=[y]:=by
  match DT,d2 with
  | [y],_=>exact ⟨y,rfl⟩
 obtain ⟨p,q,hpq⟩: ∃p q,DQ=[p,q]:=by
  match DQ,d5 with
  | [p,q],_=>exact ⟨p,q,rfl⟩
 subst hy hpq;simp only[List.getD_cons_zero,List.getD_cons_succ]at d3 d4 d6 d7 d8 d9 XM XN;have D3:=hide d3;have D4:=hide d4;have D6:=hide d6;have D7:=hide d7;have D8:=hide d8;have D9:=hide d9;have D10:=hide XM;have D11:=hide XN;clear hD d2 d3 d4 d5 d6 d7 d8 d9 XM XN;have HW:=hide hw;clear hw;go_enter Tryz.func9,Tryz.ntmps9;go_wp2_with fail;obtain ⟨yE,rf⟩: ∃W,W=w.alloc (.cells #[.string ⟨#[97]⟩,.int .i64 2,.bool false,.string ⟨#[98]⟩,.int .i64 2,.bool false] 82):=⟨_,rfl⟩;obtain ⟨g1,hg1⟩: ∃q,q=w.heap.size:=⟨_,rfl⟩;have KL:Hid (dC yE g1 82 [.string ⟨#[97]⟩,.int .i64 2,.bool false,.string ⟨#[98]⟩,.int .i64 2,.bool false]):=hide (by rw[rf,hg1];exact dC.made _ _ _);have SZg1:Hid (yE.heap.size=g1+1):=hide (by rw[rf,hg1];exact World.size_alloc _ _);have Ze:Hid (Below w.heap.size w yE):=hide (by rw[rf];exact ae);have HGg1:Hid (w.heap.size<=g1):=hide (by rw[hg1];exact Nat.le_refl _);rw[<-rf,<-hg1];have HEg1:=hide hg1;clear rf hg1;have Rs:=hide Ze.out;have hs1:=Rs.out.size;refine (kZ _ 1 1 (by omega) (by omega) (by omega) (by omega)).mono ?_;rintro e w2 ⟨⟨A1,c1,rfl,h1⟩,hb2⟩;have KL:=hide (KL.out.below hb2);have Vm:=hide (aa Rs.out hb2);clear hb2;replace h1:=h1.rebase hs1;have H1:=hide h1;clear h1;have hs2:=Vm.out.size;go_wp2_with fail;refine (kZ _ 1 2 (by omega) (by omega) (by omega) (by omega)).mono ?_;rintro e w3 ⟨⟨A2,c2,rfl,h2⟩,hb3⟩;have KL:=hide (KL.out.below hb3);have H1:=hide (H1.out.below hb3);have Vn:=hide (aa Vm.out hb3);clear hb3;replace h2:=h2.rebase hs2;have H2:=hide h2;clear h2;have hs3:=Vn.out.size;go_wp2_with fail;refine (kZ _ 2 9 (by omega) (by omega) (by omega) (by omega)).mono ?_;rintro e w4 ⟨⟨A3,c3,rfl,h3⟩,hb4⟩;have KL:=hide (KL.out.below hb4);have H1:=hide (H1.out.below hb4);have H2:=hide (H2.out.below hb4);have Mw:=hide (aa Vn.out hb4);clear hb4;replace h3:=h3.rebase hs3;have H3:=hide h3;clear h3;go_upto_region 3 with (fail);obtain ⟨GM,Fp⟩: ∃W,W=w4.alloc (.cells #[.slice A1 2 c1,.int .i64 1,.slice A2 2 c2,.int .i64 1,.slice A3 2 c3,.int .i64 3] 50):=⟨_,rfl⟩;obtain ⟨g2,hg2⟩: ∃q,q=w4.heap.size:=⟨_,rfl⟩;have KE:Hid (dC GM g2 50 [.slice A1 2 c1,.int .i64 1,.slice A2 2 c2,.int .i64 1,.slice A3 2 c3,.int .i64 3]):=hide (by rw[Fp,hg2];exact dC.made _ _ _);have Zu:Hid (GM.heap.size=g2+1):=hide (by rw[Fp,hg2];exact World.size_alloc _ _);have Mt:Hid (Below w4.heap.size w4 GM):=hide (by rw[Fp];exact ae);have HGg2:Hid (w.heap.size<=g2):=hide (by rw[hg2];exact Mw.out.size);have Xl:Hid (¬g1=g2):=hide (by have h:=KL.out.lt;omega);rw[<-Fp,<-hg2];have HEg2:=hide hg2;clear Fp hg2;have KL:=hide (KL.out.below Mt.out);have H1:=hide (H1.out.below Mt.out);have H2:=hide (H2.out.below Mt.out);have H3:=hide (H3.out.below Mt.out);have Rt:=hide (aa Mw.out Mt.out);obtain ⟨xI,rq⟩: ∃W,W=GM.alloc (.cells #[.string ⟨#[114]⟩,.slice (some ⟨g1,0,none⟩) 2 2,.slice none 0 0,.slice (some ⟨g2,0,none⟩) 3 3] 29):=⟨_,rfl⟩;obtain ⟨g3,hg3⟩: ∃q,q=GM.heap.size:=⟨_,rfl⟩;have KR:Hid (dC xI g3 29 [.string ⟨#[114]⟩,.slice (some ⟨g1,0,none⟩) 2 2,.slice none 0 0,.slice (some ⟨g2,0,none⟩) 3 3]):=hide (by rw[rq,hg3];exact dC.made _ _ _);have Zw:Hid (xI.heap.size=g3+1):=hide (by rw[rq,hg3];exact World.size_alloc _ _);have JO:Hid (Below GM.heap.size GM xI):=hide (by rw[rq];exact ae);have HGg3:Hid (w.heap.size<=g3):=hide (by rw[hg3];exact Rt.out.size);have Xm:Hid (¬g1=g3):=hide (by have h:=KL.out.lt;omega);have Xq:Hid (¬g2=g3):=hide (by have h:=KE.out.lt;omega);have WE:g3=g2+1:=by rw[hg3];exact Zu.out
 rw[<-rq,<-WE];clear WE;have HEg3:=hide hg3;clear rq hg3;have KL:=hide (KL.out.below JO.out);have KE:=hide (KE.out.below JO.out);have H1:=hide (H1.out.below JO.out);have H2:=hide (H2.out.below JO.out);have H3:=hide (H3.out.below JO.out);have Ru:=hide (aa Rt.out JO.out);obtain ⟨GN,Fq⟩: ∃W,W=xI.alloc (.cells #[.string ⟨#[97]⟩] 9):=⟨_,rfl⟩;obtain ⟨g4,hg4⟩: ∃q,q=xI.heap.size:=⟨_,rfl⟩;have KN:Hid (dC GN g4 9 [.string ⟨#[97]⟩]):=hide (by rw[Fq,hg4];exact dC.made _ _ _);have PW:Hid (GN.heap.size=g4+1):=hide (by rw[Fq,hg4];exact World.size_alloc _ _);have Da:Hid (Below xI.heap.size xI GN):=hide (by rw[Fq];exact ae);have U2:Hid (w.heap.size<=g4):=hide (by rw[hg4];exact Ru.out.size);have Xn:Hid (¬g1=g4):=hide (by have h:=KL.out.lt;omega);have Xr:Hid (¬g2=g4):=hide (by have h:=KE.out.lt;omega);have Xv:Hid (¬g3=g4):=hide (by have h:=KR.out.lt;omega);have WF:g4=g3+1:=by rw[hg4];exact Zw.out
 rw[<-Fq,<-WF];clear WF;have Yu:=hide hg4;clear Fq hg4;have KL:=hide (KL.out.below Da.out);have KE:=hide (KE.out.below Da.out);have KR:=hide (KR.out.below Da.out);have H1:=hide (H1.out.below Da.out);have H2:=hide (H2.out.below Da.out);have H3:=hide (H3.out.below Da.out);have EG:=hide (aa Ru.out Da.out);obtain ⟨GQ,Fs⟩: ∃W,W=GN.alloc (.cells #[.string ⟨#[98]⟩] 9):=⟨_,rfl⟩;obtain ⟨g5,hg5⟩: ∃q,q=GN.heap.size:=⟨_,rfl⟩;have KM:Hid (dC GQ g5 9 [.string ⟨#[98]⟩]):=hide (by rw[Fs,hg5];exact dC.made _ _ _);have VC:Hid (GQ.heap.size=g5+1):=hide (by rw[Fs,hg5];exact World.size_alloc _ _);have vS:Hid (Below GN.heap.size GN GQ):=hide (by rw[Fs];exact ae);have Sb:Hid (w.heap.size<=g5):=hide (by rw[hg5];exact EG.out.size);have Xo:Hid (¬g1=g5):=hide (by have h:=KL.out.lt;omega);have Xt:Hid (¬g2=g5):=hide (by have h:=KE.out.lt;omega);have Xw:Hid (¬g3=g5):=hide (by have h:=KR.out.lt;omega);have Xy:Hid (¬g4=g5):=hide (by have h:=KN.out.lt;omega);have WG:g5=g4+1:=by rw[hg5];exact PW.out
 rw[<-Fs,<-WG];clear WG;have Yv:=hide hg5;clear Fs hg5;have KL:=hide (KL.out.below vS.out);have KE:=hide (KE.out.below vS.out);have KR:=hide (KR.out.below vS.out);have KN:=hide (KN.out.below vS.out);have H1:=hide (H1.out.below vS.out);have H2:=hide (H2.out.below vS.out);have H3:=hide (H3.out.below vS.out);have EH:=hide (aa EG.out vS.out);obtain ⟨Df,ru⟩: ∃W,W=GQ.alloc (.cells #[.string ⟨#[117]⟩,.string ⟨#[114]⟩,.int .i64 0,.slice (some ⟨g4,0,none⟩) 1 1,.string ⟨#[]⟩,.slice none 0 0,.int .i64 0,.int .i64 0,.slice none 0 0,.int .i64 0,.int .i64 0,.int .i64 0,.int .i64 0,.int .i64 0,.string ⟨#[103]⟩,.string ⟨#[114]⟩,.int .i64 2,.slice (some ⟨g5,0,none⟩) 1 1,.string ⟨#[]⟩,.slice none 0 0,.int .i64 0,.int .i64 5,.slice none 0 0,.int .i64 0,.int .i64 0,.int .i64 0,.int .i64 0,.int .i64 0] 48):=⟨_,rfl⟩;obtain ⟨g6,Bp⟩: ∃q,q=GQ.heap.size:=⟨_,rfl⟩;have KC:Hid (dC Df g6 48 [.string ⟨#[117]⟩,.string ⟨#[114]⟩,.int .i64 0,.slice (some ⟨g4,0,none⟩) 1 1,.string ⟨#[]⟩,.slice none 0 0,.int .i64 0,.int .i64 0,.slice none 0 0,.int .i64 0,.int .i64 0,.int .i64 0,.int .i64 0,.int .i64 0,.string ⟨#[103]⟩,.string ⟨#[114]⟩,.int .i64 2,.slice (some ⟨g5,0,none⟩) 1 1,.string ⟨#[]⟩,.slice none 0 0,.int .i64 0,.int .i64 5,.slice none 0 0,.int .i64 0,.int .i64 0,.int .i64 0,.int .i64 0,.int .i64 0]):=hide (by rw[ru,Bp];exact dC.made _ _ _);have Zx:Hid (Df.heap.size=g6+1):=hide (by rw[ru,Bp];exact World.size_alloc _ _);have sO:Hid (Below GQ.heap.size GQ Df):=hide (by rw[ru];exact ae);have U3:Hid (w.heap.size<=g6):=hide (by rw[Bp];exact EH.out.size);have Xp:Hid (¬g1=g6):=hide (by have h:=KL.out.lt;omega);have Xu:Hid (¬g2=g6):=hide (by have h:=KE.out.lt;omega);have Xx:Hid (¬g3=g6):=hide (by have h:=KR.out.lt;omega);have Xz:Hid (¬g4=g6):=hide (by have h:=KN.out.lt;omega);have PQ:Hid (¬g5=g6):=hide (by have h:=KM.out.lt;omega);have WH:g6=g5+1:=by rw[Bp];exact VC.out
 rw[<-ru,<-WH];clear WH;have Yw:=hide Bp;clear ru Bp;have KL:=hide (KL.out.below sO.out);have KE:=hide (KE.out.below sO.out);have KR:=hide (KR.out.below sO.out);have KN:=hide (KN.out.below sO.out);have KM:=hide (KM.out.below sO.out);have H1:=hide (H1.out.below sO.out);have H2:=hide (H2.out.below sO.out);have H3:=hide (H3.out.below sO.out);have yA:=hide (aa EH.out sO.out);obtain ⟨Vv,r0,r1,r2,r3⟩:=KR.out.ats4;obtain ⟨Wk,VV⟩: ∃W,W=Df:=⟨_,rfl⟩;have hbk:=yA.out;rw[<-VV]at r0 r1 r2 r3 KL KE KR KN KM KC H1 H2 H3 hbk Vv⊢;clear VV;have Ey:=hide hbk;have HWK:=hide (HW.out.below hbk);have R0:=hide r0;have R1:=hide r1;have R2:=hide r2;have R3:=hide r3;have RL:=hide Vv;have I1:=hide (eu H1.out rfl);have I2:=hide (eu H2.out rfl);have I3:=hide (eu H3.out rfl);clear hbk;have LG:True:=trivial;go_region_held3 (λV=>V.cell? ⟨g3,0,none⟩=some (.string ⟨#[114]⟩)/\V.cell? ⟨g3,1,none⟩=some (.slice (some ⟨g1,0,none⟩) 2 2)/\V.cell? ⟨g3,2,none⟩=some (.slice none 0 0)/\V.cell? ⟨g3,3,none⟩=some (.slice (some ⟨g2,0,none⟩) 3 3))
  (first|exact ⟨ah UV.out RL.out R0.out,ah UV.out RL.out R1.out,ah UV.out RL.out R2.out,ah UV.out RL.out R3.out⟩|exact ⟨ah vO.out RL.out R0.out,ah vO.out RL.out R1.out,ah vO.out RL.out R2.out,ah vO.out RL.out R3.out⟩|exact ⟨ah (aa vO.out ae) RL.out R0.out,ah (aa vO.out ae) RL.out R1.out,ah (aa vO.out ae) RL.out R2.out,ah (aa vO.out ae) RL.out R3.out⟩|exact ⟨r0,r1,r2,r3⟩)
  (first|(clear LG;go_at_call 28;refine (kZ _ 1 2 (by omega) (by omega) (by omega) (by omega)).mono ?_;rintro e wA ⟨⟨AA,cA,rfl,hA⟩,Uz⟩;have IA:=hide (eu hA rfl);have vO:=hide (aj Uz);clear hA Uz;have mkA:True:=trivial)|(clear LG;go_at_call 28;refine (kZ _ 2 9 (by omega) (by omega) (by omega) (by omega)).mono ?_;rintro e wB ⟨⟨AB,cB,rfl,hB⟩,UA⟩;have IB:=hide (eu hB rfl);have vO:=hide (aj UA);clear hB UA;have mkB:True:=trivial)|(clear mkA;go_at_call 28;refine (kZ _ 2 9 (by omega) (by omega) (by omega) (by omega)).mono ?_;rintro e wB ⟨⟨AB,cB,rfl,hB⟩,UA⟩;have IB:=hide (eu hB rfl);have IA:=hide (IA.out.below UA);have vO:=hide (aa vO.out UA);clear hB UA;have mkC:True:=trivial)|(clear mkB;go_at_call 28;refine (kZ _ 1 2 (by omega) (by omega) (by omega) (by omega)).mono ?_;rintro e wA ⟨⟨AA,cA,rfl,hA⟩,Uz⟩;have IA:=hide (eu hA rfl);have IB:=hide (IB.out.below Uz);have vO:=hide (aa vO.out Uz);clear hA Uz;have mkC:True:=trivial)|(clear mkC;go_at_call 14;have hbl:=aa vO.out (ae (o:=.cells #[.string ⟨#[117]⟩,.slice AA 2 cA,.string ⟨#[117]⟩,.slice AB 2 cB] 33));refine (PD.out _ _ (P6 (KL.out.below hbl)) _ (Tt (KE.out.below hbl) (I1.out.below hbl) (I2.out.below hbl) (I3.out.below hbl)) _ (P7 (KC.out.below hbl) (Od (by decide) (KN.out.below hbl)) (Od (by decide) (KM.out.below hbl))) _ (Ub (dC.made _ _ _) (IA.out.below ae) (IB.out.below ae)) (HWK.out.below hbl)).mono ?_;rintro e w9 ⟨⟨A7,m7,c7,A8,m8,c8,rfl,UB,Js⟩,fK⟩;have UV:=hide (aa hbl fK);obtain rfl:m7=1:=UB.len.symm;obtain rfl:m8=2:=Js.len.symm;clear hbl fK;obtain ⟨b7,o7,y7,rfl, -,hy7,Ay,ny,cy,t0, -,hty, -⟩:=UB.ent (k:=0) (by omega);obtain rfl:y=y7:=(List.cons.inj hy7).1;obtain rfl:ny=2:=hty.len.symm.trans D3.out;obtain ⟨by_,oy,vy,rfl, -,hvy, -,t1, -, -⟩:=hty.val (k:=1) (by omega);have htn:vy.num=2:=(by simpa[List.getD_eq_getElem?_getD,(bX hvy).1] using D4.out);rw[htn]at t1;obtain ⟨b8,o8,p8,rfl, -,hp8,Ap,np,cp,Aq,nq,cq,p0,p1,p2,p3, -,hpc, -, -⟩:=Js.quar (k:=0) (by omega);obtain rfl:p=p8:=(List.cons.inj hp8).1;obtain ⟨b82,o82,q8,ZC, -,hq8,O4,Pg,cp2,Aq2,nq2,cq2,q0,q1,q2,q3, -,hqc, -, -⟩:=Js.quar (k:=1) (by omega);injection ZC with ZC;injection ZC with e8a e8b;subst e8a e8b;obtain rfl:q=q8:=(List.cons.inj hq8).1;obtain rfl:nq=1:=hpc.len.symm.trans D7.out;obtain rfl:nq2=1:=hqc.len.symm.trans D10.out;obtain ⟨bs,os,s8,rfl, -,hs8,s0, -⟩:=hpc.str (k:=0) (by omega);obtain ⟨bu,ou,u8,rfl, -,hu8,u0, -⟩:=hqc.str (k:=0) (by omega);have hs9:s8=⟨#[117]⟩:=ba_eq (by rw[show s8.toList=[117] from by simpa[List.getD_eq_getElem?_getD,(bX hs8).1] using D8.out];decide+kernel);have hu9:u8=⟨#[103]⟩:=ba_eq (by rw[show u8.toList=[103] from by simpa[List.getD_eq_getElem?_getD,(bX hu8).1] using D11.out];decide+kernel);have hr9:p.relation=⟨#[114]⟩:=ba_eq (D6.out.trans (by decide+kernel));rw[hs9]at s0;rw[hu9]at u0;rw[hr9]at p0;rw[D9.out]at q2;clear hs8 hu8 hs9 hu9 hr9 hy7 hvy htn hp8 hq8 hpc hqc hty UB Js;(try simp only[Nat.zero_mul,Nat.add_zero,Nat.one_mul,Nat.zero_add]at t0 t1 p0 p1 p2 p3 q0 q1 q2 q3 s0 u0)))
 all_goals (go_wp2;go_ret;exact ⟨rfl,aa Ey.out UV.out⟩)
theorem CO (w:World)(gb:Nat)(A:Option Addr)(n c:Nat)(l:List Int)(i:Nat)(hN:Num w gb A n c l i)(A1:Option Addr)(n1 c1:Nat)(hc:Off w gb A1 n1 c1 gV)(m:Int)(hm0:0<=m)(hm1:m<=1000):
  Calls Tryz.prog 19 #[.slice A1 n1 c1,.pointer (some ⟨gb,0,none⟩),.int .i64 m] w
   λe w'=>(∃A' c' zs j,e=.returned (.slice A' zs.length c')/\Hi w.heap.size w' A' zs.length c' zs/\sV gV zs/\Num w' gb A n c l j)/\w.grownBy w' (some gb):=by
 have hl:=hc.inn.len;refine (Iz w gb A n c l i hN A1 n1 c1 gV hc EQ (by rw[<-hl];decide) m hm0 hm1).mono ?_;rintro e w' ⟨v,xs,zs,q,j,rfl,hf,hx,hxl,hno,XU,hg4⟩;obtain ⟨A4,c4,rfl,hin4⟩:=hf.hi;exact ⟨⟨A4,c4,zs,j,rfl,hin4,⟨xs,q,hx,hxl,hno⟩,XU⟩,hg4⟩
theorem Hi.low {α:Type}[Rep α]{B B' n c:Nat}{w:World}{A:Option Addr}{xs:List α}(h:Hi B' w A n c xs)(hB:B<=B'):Hi B w A n c xs:=Sl.mono (λk hk=>⟨Nat.le_trans hB hk.1,hk.2⟩) h
theorem Jt {V:World}{B d n c:Nat}{xs:List Col}(h:In V (some ⟨d,0,none⟩) n c xs)(hd:B<=d):Hi B V (some ⟨d,0,none⟩) n c xs:=
 Ww h (λ_ _ _ _ h=>h) λb off e=>by injection e with e;injection e with e1 e2;omega
def aU (B:Nat)(V V':World):Prop:=V.heap.size<=V'.heap.size/\ ∀k,B<=k->k<V.heap.size->V'.heap[k]?=V.heap[k]?
theorem aU.below {B:Nat}{V V':World}(hb:Below V.heap.size V V'):aU B V V':=⟨hb.size,λk _ hk=>hb.block k hk⟩
theorem aU.grown {B g:Nat}{V V':World}(hg:V.grownBy V' (some g))(h:g<B):aU B V V':=⟨hg.size,λk hk h2=>hg.block k h2 λe=>by injection e with e;omega⟩
theorem aU.trans {B:Nat}{a b c:World}(h:aU B a b)(h':aU B b c):aU B a c:=⟨Nat.le_trans h.1 h'.1,λk h1 h2=>(h'.2 k h1 (Nat.lt_of_lt_of_le h2 h.1)).trans (h.2 k h1 h2)⟩
theorem aU.set {B g:Nat}{a b:World}(h:aU B a b)(hg:a.heap.size<=g)(o:Nat)(v:Value):aU B a (b.setCell ⟨g,o,none⟩ v):=
 ⟨by simpa using h.1,λk h1 h2=>(Below.heap_setCell _ _ _ k (λq=>by have q:k=g:=q;omega)).trans (h.2 k h1 h2)⟩
theorem Hi.up30 {α:Type}[Rep α]{B n c:Nat}{V V':World}{A:Option Addr}{xs:List α}(h:Hi B V A n c xs)(hu:aU B V V'):Hi B V' A n c xs:=
 (Sl.keep (λk (hk:B<=k/\k<V.heap.size)=>hu.2 k hk.1 hk.2) h).mono λk (hk:B<=k/\k<V.heap.size)=>⟨hk.1,Nat.lt_of_lt_of_le hk.2 hu.1⟩
theorem dC.up30 {B d:Nat}{V V':World}{t:TypeId}{l:List Value}(h:dC V d t l)(hd:B<=d)(hu:aU B V V'):dC V' d t l:=(hu.2 d hd h.lt).trans h
theorem zM {V w:World}{g:Nat}{A:Option Addr}{n c:Nat}{l:List Int}(hb:dC V g 64 [.slice A n c,.int .i64 0])(hl:In w A n c l)(hw:Below w.heap.size w V)(hg:w.heap.size<=g)(hn:n<=1048576):Num V g A n c l 0:=
 ⟨hb.at 0 rfl,hb.at 1 rfl,⟨_,hb,rfl⟩,(hl.keep (Same.below hw)).mono λk (hk:k<w.heap.size)=>by omega,Nat.zero_le _,hn⟩
def kD:Nat->ByteArray
 | 0=>⟨#[97]⟩
 | 1=>⟨#[98]⟩
 | 2=>⟨#[99]⟩
 | 3=>⟨#[100]⟩
 | _=>⟨#[101]⟩
theorem Og {i j:Nat}(hi:i<5)(hj:j<5)(h:kD i=kD j):i=j:=by
 have h1:i=0\/i=1\/i=2\/i=3\/i=4:=by omega
 have h2:j=0\/j=1\/j=2\/j=3\/j=4:=by omega
 rcases h1 with rfl|rfl|rfl|rfl|rfl <;> rcases h2 with rfl|rfl|rfl|rfl|rfl <;> first|rfl|(exfalso;revert h;decide)
theorem Oh (k:Nat):Str (kD k):=by
 unfold kD Str
 split <;> decide
def EJ (w Wo:World)(B g4 gg gh:Nat):Prop:=w.heap.size<=g4/\g4<gg/\gg<gh/\gh<B/\B<=Wo.heap.size
structure S30 (w Wo:World) (B g4 gg gh:Nat) (A:Option Addr) (n c:Nat) (l:List Int) (A2:Option Addr) (n2 c2:Nat) (l2:List Int) (V:World):Prop where
 ng: ∃j,Num V gg A n c l j
 nh: ∃j,Num V gh A2 n2 c2 l2 j
 k4:dC V g4 29 [.string ⟨#[]⟩,.slice none 0 0,.slice none 0 0,.slice none 0 0]
 up:aU B Wo V
 bel:Below w.heap.size w V
section
variable {w Wo V V':World}{B g4 gg gh:Nat}{A:Option Addr}{n c:Nat}{l:List Int}{A2:Option Addr}{n2 c2:Nat}{l2:List Int}
theorem S30.below (h:S30 w Wo B g4 gg gh A n c l A2 n2 c2 l2 V)(hb:Below V.heap.size V V'):S30 w Wo B g4 gg gh A n c l A2 n2 c2 l2 V':=by
 obtain ⟨j,h1⟩:=h.ng;obtain ⟨j2,h2⟩:=h.nh;exact ⟨⟨j,h1.below hb⟩,⟨j2,h2.below hb⟩,h.k4.below hb,h.up.trans (aU.below hb),aa h.bel hb⟩
theorem S30.nexth (h:S30 w Wo B g4 gg gh A n c l A2 n2 c2 l2 V)(ho:EJ w Wo B g4 gg gh){j:Nat}(hN:Num V' gh A2 n2 c2 l2 j)(hg:V.grownBy V' (some gh)):S30 w Wo B g4 gg gh A n c l A2 n2 c2 l2 V':=by
 obtain ⟨o1,o2,o3,o4,o5⟩:=ho;obtain ⟨j1,h1⟩:=h.ng;exact ⟨⟨j1,h1.grown hg λk e=>by injection e with e;omega⟩,⟨j,hN⟩,h.k4.grown hg (λe=>by injection e with e;omega),h.up.trans (aU.grown hg o4),gJ h.bel hg h.bel.size (by omega)⟩
theorem S30.nextg (h:S30 w Wo B g4 gg gh A n c l A2 n2 c2 l2 V)(ho:EJ w Wo B g4 gg gh)(hl:In w A2 n2 c2 l2){j:Nat}(hN:Num V' gg A n c l j)(hg:V.grownBy V' (some gg)):S30 w Wo B g4 gg gh A n c l A2 n2 c2 l2 V':=by
 obtain ⟨o1,o2,o3,o4,o5⟩:=ho;obtain ⟨j2,h2⟩:=h.nh;exact ⟨⟨j,hN⟩,⟨j2,h2.other hl h.bel (by omega) (by omega) (by omega) hg⟩,h.k4.grown hg (λe=>by injection e with e;omega),h.up.trans (aU.grown hg (by omega)),gJ h.bel hg h.bel.size (by omega)⟩
theorem S30.own (h:S30 w Wo B g4 gg gh A n c l A2 n2 c2 l2 V)(ho:EJ w Wo B g4 gg gh){r:Option Nat}(hg:V.grownBy V' r)(hr: ∀k,r=some k->Wo.heap.size<=k):S30 w Wo B g4 gg gh A n c l A2 n2 c2 l2 V':=by
 obtain ⟨o1,o2,o3,o4,o5⟩:=ho;obtain ⟨j1,h1⟩:=h.ng;obtain ⟨j2,h2⟩:=h.nh;refine ⟨⟨j1,h1.grown hg λk e=>by have:=hr k e;omega⟩,⟨j2,h2.grown hg λk e=>by have:=hr k e;omega⟩,h.k4.grown hg (λe=>by have:=hr g4 e.symm;omega),⟨Nat.le_trans h.up.1 hg.size,λk h3 h4=>?_⟩,h.bel.grown hg h.bel.size λk e=>by have:=hr k e;omega⟩;exact (hg.block k (Nat.lt_of_lt_of_le h4 h.up.1) λe=>by have:=hr k e.symm;omega).trans (h.up.2 k h3 h4)
theorem S30.set (h:S30 w Wo B g4 gg gh A n c l A2 n2 c2 l2 V)(ho:EJ w Wo B g4 gg gh){g:Nat}(hg:Wo.heap.size<=g)(o:Nat)(v:Value):S30 w Wo B g4 gg gh A n c l A2 n2 c2 l2 (V.setCell ⟨g,o,none⟩ v):=
 h.own ho bM λk e=>by injection e with e;omega
end
def Lt (Bo:Nat)(V:World)(A':Option Addr)(n' c':Nat)(aX:Option Addr)(n'' c'':Nat)(A3:Option Addr)(n3 c3:Nat)(cc:Chk):Prop:=
 Sl V (BS Bo (λ_=>False) [9,89] V) A' n' c' cc.cols/\Sl V (BS Bo (λ_=>False) [9,89] V) aX n'' c'' cc.ocols/\Sl V (BS Bo (λ_=>False) [9,89] V) A3 n3 c3 cc.cond
def pK (Bo k:Nat)(V:World)(g:Nat):Prop:= ∃(cc:Chk) (A':Option Addr) (n' c':Nat) (aX:Option Addr) (n'' c'':Nat) (A3:Option Addr) (n3 c3:Nat),jr cc/\cc.name=kD k/\Str cc.table/\dC V g 48 (aB cc A' n' c' aX n'' c'' A3 n3 c3)/\Lt Bo V A' n' c' aX n'' c'' A3 n3 c3 cc
theorem ut {α:Type}[Rep α]{w w':World}{B n c:Nat}{O:Nat->Prop}{T:List TypeId}{A:Option Addr}{xs:List α}(hs:Sl w (BS B O T w) A n c xs)(hk: ∀k,BS B O T w k->w'.heap[k]?=w.heap[k]?):Sl w' (BS B O T w') A n c xs:=
 (Sl.keep (λk h=>hk k h) hs).mono λk h=>h.kept (hk k h)
theorem Lt.kept {Bo:Nat}{V V':World}{A':Option Addr}{n' c':Nat}{aX:Option Addr}{n'' c'':Nat}{A3:Option Addr}{n3 c3:Nat}{cc:Chk}(h:Lt Bo V A' n' c' aX n'' c'' A3 n3 c3 cc)(hk: ∀k,BS Bo (λ_=>False) [9,89] V k->V'.heap[k]?=V.heap[k]?):Lt Bo V' A' n' c' aX n'' c'' A3 n3 c3 cc:=
 ⟨ut h.1 hk,ut h.2.1 hk,ut h.2.2 hk⟩
theorem MN {Bo:Nat}{V:World}{k:Nat}(h:BS Bo (λ_=>False) [9,89] V k){t:TypeId}{g:Nat}(hg:dm V t g)(ht:t≠9/\t≠89):k≠g:=λe=>by
 subst e;rcases h with ⟨h,_⟩|⟨_,t',ht',h⟩
 ·exact h
 ·simp only[List.mem_cons,List.not_mem_nil,or_false]at ht';rcases ht' with rfl|rfl
  ·exact dm.ne hg h ht.1 rfl
  ·exact dm.ne hg h ht.2 rfl
theorem Lt.below {Bo:Nat}{V V':World}{A':Option Addr}{n' c':Nat}{aX:Option Addr}{n'' c'':Nat}{A3:Option Addr}{n3 c3:Nat}{cc:Chk}(h:Lt Bo V A' n' c' aX n'' c'' A3 n3 c3 cc)(hB:Bo<=V.heap.size)(hb:Below V.heap.size V V'):Lt Bo V' A' n' c' aX n'' c'' A3 n3 c3 cc:=
 h.kept λk hk=>hb.block k (hk.lt hB)
theorem Lt.off {Bo:Nat}{V V':World}{A':Option Addr}{n' c':Nat}{aX:Option Addr}{n'' c'':Nat}{A3:Option Addr}{n3 c3:Nat}{cc:Chk}(h:Lt Bo V A' n' c' aX n'' c'' A3 n3 c3 cc)(hB:Bo<=V.heap.size){g:Nat}{t:TypeId}(hg:dm V t g)(ht:t≠9/\t≠89)(hb:V.grownBy V' (some g)):Lt Bo V' A' n' c' aX n'' c'' A3 n3 c3 cc:=
 h.kept λk hk=>hb.block k (hk.lt hB) λe=>MN hk hg ht (by injection e)
theorem pK.below {Bo k g:Nat}{V V':World}(h:pK Bo k V g)(hB:Bo<=V.heap.size)(hb:Below V.heap.size V V'):pK Bo k V' g:=by
 obtain ⟨cc,A',n',c',aX,n'',c'',A3,n3,c3,h1,h2,Ns,h3,h4⟩:=h;exact ⟨cc,A',n',c',aX,n'',c'',A3,n3,c3,h1,h2,Ns,h3.below hb,h4.below hB hb⟩
theorem pK.nexth {Bo k g gh:Nat}{V V':World}(h:pK Bo k V g)(hB:Bo<=V.heap.size){t:TypeId}(ht:dm V t gh)(hne:t≠9/\t≠89)(hgh:gh≠g)(hg:V.grownBy V' (some gh)):pK Bo k V' g:=by
 obtain ⟨cc,A',n',c',aX,n'',c'',A3,n3,c3,h1,h2,Ns,h3,h4⟩:=h;exact ⟨cc,A',n',c',aX,n'',c'',A3,n3,c3,h1,h2,Ns,h3.grown hg (λe=>by injection e with e;exact hgh e.symm),h4.off hB ht hne hg⟩
theorem Fe {c:Chk}(h:jr c)(t:ByteArray):jr {c with table:=t}:=by
 obtain ⟨Bd,hp,hc⟩:=h;refine ⟨Bd,hp,?_⟩;simp only[oZ,List.mem_cons,List.not_mem_nil,or_false]at hc⊢;rcases hc with h|h|h|h|h|h|h|h|h <;> rw[h] <;> simp[kw]
theorem pK.table {Bo k g:Nat}{V:World}(h:pK Bo k V g)(hB:Bo<=V.heap.size)(t:ByteArray)(ht:Str t):pK Bo k (V.setCell ⟨g,1,none⟩ (.string t)) g:=by
 obtain ⟨cc,A',n',c',aX,n'',c'',A3,n3,c3,h1,h2,Ns,h3,h4⟩:=h;refine ⟨{cc with table:=t},A',n',c',aX,n'',c'',A3,n3,c3,Fe h1 t,h2,ht,h3.set 1 _,?_⟩;exact h4.off hB h3.ty ⟨by decide,by decide⟩ bM
theorem zY {V:World}{Bo d n:Nat}{xs:List ByteArray}(hb:dC V d 9 (xs.map Value.string))(hd:Bo<=d)(hn:xs.length=n)(hm:n<=maxLen)(hs: ∀s∈xs,Str s):Sl V (BS Bo (λ_=>False) [9,89] V) (some ⟨d,0,none⟩) n n xs:=by
 have hc: ∀(xs:List ByteArray) (S:Nat->Prop),(∀s∈xs,Str s)->Cells V S (xs.map Value.string) xs:=by
  intro xs
  induction xs with
  |nil=>intro S _;rfl
  |cons x l ih=>intro S h;exact ⟨[.string x],l.map Value.string,rfl,⟨rfl,h x (by simp)⟩,ih S λy hy=>h y (by simp[hy])⟩
 have h1:In V (some ⟨d,0,none⟩) n n xs:=iZ hb (by simpa using hc xs _ hs) hn hm;refine ⟨h1.1,h1.2.1,h1.2.2.1,h1.2.2.2.1,λhp=>?_⟩;obtain ⟨b,off,e,hlt,hi⟩:=h1.2.2.2.2 hp;have e2:=e;injection e2 with e2;injection e2 with e3 e4;subst e3;refine ⟨d,off,e,.inr ⟨hd,_,by simp,hb.ty⟩,λi hi'=>?_⟩;obtain ⟨cs,h1,h3⟩:=hi i hi';exact ⟨cs,h1,h3⟩
theorem Bg (xs:List Node)(w:World)(S:Nat->Prop)(h: ∀x∈xs,x.ok):Cells w S (xs.flatMap Node.cells) xs:=by
 induction xs with
 |nil=>rfl
 |cons x l ih=>exact ⟨x.cells,l.flatMap Node.cells,rfl,⟨rfl,h x (by simp)⟩,ih λy hy=>h y (by simp[hy])⟩
theorem TP: ∀x∈Kz,x.ok:=by
 intro x hx;simp only[Kz,List.mem_cons,List.not_mem_nil,or_false]at hx;rcases hx with rfl|rfl|rfl <;> refine ⟨⟨by decide,by decide⟩,⟨⟨by decide,by decide⟩,⟨by decide,by decide⟩,?_⟩,?_,⟨by decide,by decide⟩,by simp[GG]⟩ <;> (unfold Str;decide)
theorem TU {V:World}{Bo d:Nat}(hb:dC V d 89 (Kz.flatMap Node.cells))(hd:Bo<=d):Sl V (BS Bo (λ_=>False) [9,89] V) (some ⟨d,0,none⟩) 3 3 Kz:=by
 have h1:In V (some ⟨d,0,none⟩) 3 3 Kz:=iZ hb (by simpa using Bg Kz V _ TP) rfl (by decide);refine ⟨h1.1,h1.2.1,h1.2.2.1,h1.2.2.2.1,λhp=>?_⟩;obtain ⟨b,off,e,hlt,hi⟩:=h1.2.2.2.2 hp;have e2:=e;injection e2 with e2;injection e2 with e3 e4;subst e3;refine ⟨d,off,e,.inr ⟨hd,_,by simp,hb.ty⟩,λi hi'=>?_⟩;obtain ⟨cs,h1,h3⟩:=hi i hi';exact ⟨cs,h1,h3⟩
theorem OL.up30 {α:Type}[Rep α]{e:TypeId}{B:Nat}{T:List TypeId}{V V':World}{v:Value}{xs:List α}(h:OL e B (λ_=>False) T V v xs)(hu:aU B V V'):OL e B (λ_=>False) T V' v xs:=
 h.kept (λk hk=>by
  rcases hk with (⟨hk,_⟩|⟨hk,t,_,ht⟩)|hk
  ·exact hk.elim
  ·exact hu.2 k hk ht.lt
  ·exact hu.2 k (h.ty hk).1 (h.ty hk).2.lt) hu.1
theorem Np {c:Chk}(h:jr c):eZ c.kind/\Str c.other/\eZ c.low/\eZ c.high/\eZ c.ln/\eZ c.ld/\eZ c.mn/\eZ c.md/\eZ c.policy:=by
 obtain ⟨Bd,hp,hc⟩:=h;obtain ⟨i0,i1,i2,i3,i4,i5,s0,s1,s2,s3,s4⟩:=gQ;have ip:eZ Bd:=by rcases hp with rfl|rfl <;> assumption
 simp only[oZ,List.mem_cons,List.not_mem_nil,or_false]at hc;rcases hc with h|h|h|h|h|h|h|h|h <;> rw[h] <;> simp only[kw] <;> refine ⟨?_,?_,?_,?_,?_,?_,?_,?_,?_⟩ <;> assumption
theorem MU {Bo:Nat}{V:World}{A':Option Addr}{n' c':Nat}{aX:Option Addr}{n'' c'':Nat}{A3:Option Addr}{n3 c3 k:Nat}{cc:Chk}(h:Lt Bo V A' n' c' aX n'' c'' A3 n3 c3 cc)(hg:jr cc)(hn:cc.name=kD k)(ht:Str cc.table):
  Rep.rd V (BS Bo (λ_=>False) [9,89] V) (aB cc A' n' c' aX n'' c'' A3 n3 c3) cc:=by
 obtain ⟨a,b,d,e,f,i,j,l,m⟩:=Np hg;exact ⟨_,_,_,_,_,_,_,_,_,rfl,h.1,h.2.1,h.2.2,by rw[hn];exact Oh k,ht,a,b,d,e,f,i,j,l,m⟩
theorem GZ:Elem Tryz.prog 39 48 14 184:=ni (.agg #[.string ⟨#[]⟩,.string ⟨#[]⟩,.int .i64 0,.slice none 0 0,.string ⟨#[]⟩,.slice none 0 0,.int .i64 0,.int .i64 0,.slice none 0 0,.int .i64 0,.int .i64 0,.int .i64 0,.int .i64 0,.int .i64 0]) Tryz.underlying39 (by kernel_rfl) rfl (by decide)
theorem tX:Elem Tryz.prog 22 33 2 40:=ni (.agg #[.string ⟨#[]⟩,.slice none 0 0]) Tryz.underlying22 (by kernel_rfl) rfl (by decide)
theorem mP {α:Type}[Rep α]{V:World}{S:Nat->Prop}:Sl (α:=α) V S none 0 0 []:=⟨rfl,Nat.le_refl _,by omega,λ_=>rfl,λh=>by omega⟩
end Go.Proofs.YtopjjlmfilgngaaGreatDoor
