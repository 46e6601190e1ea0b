/-
  warehouselaw30: row, columns; its closed example. Chapter 30: what lies above the numbers' blocks stays; its tables. warehouselaw30.made: what its loops keep. No walk stands here.
-/
import Derived.Test.YtopjjlmfilgngaaGreatDoorGba
import Derived.Test.YtopjjlmfilgngaaGreatDoorGbb
import Derived.Test.YtopjjlmfilgngaaGreatDoorGas
import Derived.Test.YtopjjlmfilgngaaGreatDoorGae
import Derived.Test.YtopjjlmfilgngaaGreatDoorBlk
import Derived.Test.YtopjjlmfilgngaaGreatDoorGax
import Derived.Test.YtopjjlmfilgngaaGreatDoorGaf
namespace Go.Proofs.YtopjjlmfilgngaaGreatDoor
set_option maxHeartbeats 4000000
set_option maxRecDepth 100000
open Go.RowKit Go.Maps
set_option linter.unusedSimpArgs false
set_option linter.unusedVariables false
theorem Cq {n:Int}(h0:0<=n)(h1:n<=1000):Val.ok (iV n):=⟨⟨by show (-9223372036854775808:Int)<=2;decide,by show (2:Int)<=9223372036854775807;decide⟩,⟨by show (-9223372036854775808:Int)<=n;omega,by show n<=(9223372036854775807:Int);omega⟩,by show (⟨#[]⟩:ByteArray).size<=9223372036854775807;decide⟩
theorem iw (w:World)(a b:Int)(ha:0<=a)(ha2:a<=1000)(hb:0<=b)(hb2:b<=1000):Calls Tryz.prog 28 #[.int .i64 a,.int .i64 b] w
  λe w'=>(∃A c,e=.returned (.slice A 2 c)/\OL 36 w.heap.size (λ_=>False) [] w' (.slice A 2 c) [iV a,iV b])/\Below w.heap.size w w':=by
 have va:=Cq ha ha2;have vb:=Cq hb hb2;go_enter Tryz.func28,Tryz.ntmps28;go_wp2;go_ret;exact ⟨⟨_,_,rfl,OL.built (Nat.le_refl _) (by decide) rfl rfl ⟨[_,_,_],[_,_,_],rfl,⟨rfl,va⟩,Cells.one ⟨rfl,vb⟩⟩⟩,ae⟩
theorem fB (w:World):Calls Tryz.prog 18 #[] w
  λe w'=>(e=.returned (.slice (some ⟨w.heap.size,0,none⟩) 3 3)/\In w' (some ⟨w.heap.size,0,none⟩) 3 3 fA)/\Below w.heap.size w w':=by
 go_enter Tryz.func18,Tryz.ntmps18;go_wp2;go_ret;exact ⟨⟨rfl,fC (heap_alloc_new w _) (AC fA _ _ λx hx=>(yo x hx).1) rfl (by decide)⟩,ae⟩
theorem Lh {V:World}{g:Nat}{A1 A2 A3:Option Addr}{d1 d2 d3:Nat}(hb:dJ V g 50 [.slice A1 2 d1,.int .i64 1,.slice A2 2 d2,.int .i64 1,.slice A3 2 d3,.int .i64 3])(h1:In V A1 2 d1 [iV 1,iV 1])(h2:In V A2 2 d2 [iV 1,iV 2])(h3:In V A3 2 d3 [iV 2,iV 9]):In V (some ⟨g,0,none⟩) 3 3 xq:=
 fC hb ⟨[_,_],[_,_,_,_],rfl,⟨_,_,_,rfl,h1,⟨by decide,by decide⟩⟩,[_,_],[_,_],rfl,⟨_,_,_,rfl,h2,⟨by decide,by decide⟩⟩,Cells.one ⟨_,_,_,rfl,h3,⟨by decide,by decide⟩⟩⟩ rfl (by decide)
theorem L9 {V:World}{g:Nat}{A1 A2:Option Addr}{d1 d2:Nat}(hb:dJ V g 33 [.string ⟨#[117]⟩,.slice A1 2 d1,.string ⟨#[117]⟩,.slice A2 2 d2])(h1:In V A1 2 d1 [iV 1,iV 2])(h2:In V A2 2 d2 [iV 2,iV 9]):In V (some ⟨g,0,none⟩) 2 2 FX:=
 fC hb ⟨[_,_],[_,_],rfl,⟨_,_,_,rfl,h1,by show (⟨#[117]⟩:ByteArray).size<=9223372036854775807;decide⟩,Cells.one ⟨_,_,_,rfl,h2,by show (⟨#[117]⟩:ByteArray).size<=9223372036854775807;decide⟩⟩ rfl (by decide)
theorem II {V:World}{g:Nat}(hb:dJ V g 82 [.string ⟨#[97]⟩,.int .i64 2,.bool false,.string ⟨#[98]⟩,.int .i64 2,.bool false]):In V (some ⟨g,0,none⟩) 2 2 xm:=by
 have h1: ∀V:World,Rep.rd V (λk=>k<V.heap.size) [.string ⟨#[97]⟩,.int .i64 2,.bool false] (⟨⟨#[97]⟩,2,false⟩:Col):=λV=>
  ⟨rfl,⟨by show (⟨#[97]⟩:ByteArray).size<=9223372036854775807;decide,by show (-9223372036854775808:Int)<=2;decide,by show (2:Int)<=9223372036854775807;decide⟩⟩
 have h2: ∀V:World,Rep.rd V (λk=>k<V.heap.size) [.string ⟨#[98]⟩,.int .i64 2,.bool false] (⟨⟨#[98]⟩,2,false⟩:Col):=λV=>
  ⟨rfl,⟨by show (⟨#[98]⟩:ByteArray).size<=9223372036854775807;decide,by show (-9223372036854775808:Int)<=2;decide,by show (2:Int)<=9223372036854775807;decide⟩⟩
 exact fC hb ⟨[_,_,_],[_,_,_],rfl,h1 _,Cells.one (h2 _)⟩ rfl (by decide)
theorem qG {V:World}{g:Nat}{s:ByteArray}(hs:s.size<=8)(hb:dJ V g 9 [.string s]):In V (some ⟨g,0,none⟩) 1 1 [s]:=
 fC hb (Cells.one ⟨rfl,by show s.size<=9223372036854775807;omega⟩) rfl (by decide)
theorem mq:dH 0/\dH 1/\dH 2/\dH 3/\dH 4/\dH 5/\Str ⟨#[]⟩/\Str ⟨#[117]⟩/\Str ⟨#[103]⟩/\Str nR/\Str nO:=by
 refine ⟨⟨?_,?_⟩,⟨?_,?_⟩,⟨?_,?_⟩,⟨?_,?_⟩,⟨?_,?_⟩,⟨?_,?_⟩,?_,?_,?_,?_,?_⟩ <;> first|decide|(unfold Str;decide)
theorem IJ {V:World}{g ga gb:Nat}(hb:dJ V g 48 [.string ⟨#[117]⟩,.string ⟨#[114]⟩,.int .i64 0,.slice (some ⟨ga,0,none⟩) 1 1,.string ⟨#[]⟩,.slice none 0 0,.int .i64 0,.int .i64 0,.slice none 0 0,.int .i64 0,.int .i64 0,.int .i64 0,.int .i64 0,.int .i64 0,.string ⟨#[103]⟩,.string ⟨#[114]⟩,.int .i64 2,.slice (some ⟨gb,0,none⟩) 1 1,.string ⟨#[]⟩,.slice none 0 0,.int .i64 0,.int .i64 5,.slice none 0 0,.int .i64 0,.int .i64 0,.int .i64 0,.int .i64 0,.int .i64 0])(h1:In V (some ⟨ga,0,none⟩) 1 1 [(⟨#[97]⟩:ByteArray)])(h2:In V (some ⟨gb,0,none⟩) 1 1 [(⟨#[98]⟩:ByteArray)]):In V (some ⟨g,0,none⟩) 2 2 [Dn,Dp]:=by
 obtain ⟨i0,i1,i2,i3,i4,i5,s0,s1,s2,s3,_⟩:=mq;exact fC hb ⟨[_,_,_,_,_,_,_,_,_,_,_,_,_,_],[_,_,_,_,_,_,_,_,_,_,_,_,_,_],rfl,⟨_,_,_,_,_,_,_,_,_,rfl,h1,In.nil_,In.nil_,s1,s3,i0,s0,i0,i0,i0,i0,i0,i0,i0⟩,Cells.one ⟨_,_,_,_,_,_,_,_,_,rfl,h2,In.nil_,In.nil_,s2,s3,i2,s0,i0,i5,i0,i0,i0,i0,i0⟩⟩ rfl (by decide)
theorem mf (w:World)(hw:Words w):
  Calls Tryz.prog 9 #[] w λe w'=>e=.returned (.bool true)/\Below w.heap.size w w':=by
 have Kz:=hide λW A1 (hc:In W A1 2 2 xm) A3 (hr:In W A3 3 3 xq) Ac (hl:In W Ac 2 2 [Dn,Dp]) Aw (hws:In W Aw 2 2 FX) (hw:Words W)=>yA W LJ A1 2 2 hc none 0 0 A3 3 3 hr Ac 2 2 [Dn,Dp] hl none 0 0 [] In.nil_ Aw 2 2 FX hws none 0 0 [] In.nil_ hw (by omega) (by omega) (by simp[Dn,Dp]) (by simp) mq.2.2.2.2.2.2.2.2.2.1;obtain ⟨d1,d2,d3,d4,d5,d6,d7,d8,d9,PD,PE⟩:=JA;rw[show sN LJ [Dn,Dp] [] FX []=qF from rfl]at Kz;obtain ⟨⟨DE,DT,DQ⟩,hD⟩: ∃q,qF=q:=⟨_,rfl⟩;rw[hD]at Kz d1 d2 d3 d4 d5 d6 d7 d8 d9 PD PE;obtain rfl:DE=0:=d1;obtain ⟨y,hy⟩: ∃y,DT=[y]:=by
  match DT,d2 with
  | [y],_=>exact ⟨y,rfl⟩
 obtain ⟨p,q,hpq⟩: ∃p q,DQ=[p,q]:=by
  match DQ,d5 with
  | [p,q],_=>exact ⟨p,q,rfl⟩
 subst hy hpq;simp only[List.getD_cons_zero,List.getD_cons_succ]at d3 d4 d6 d7 d8 d9 PD PE;have D3:=hide d3;have D4:=hide d4;have D6:=hide d6;have D7:=hide d7;have D8:=hide d8;have D9:=hide d9;have Ua:=hide PD;have Ub:=hide PE;clear hD d2 d3 d4 d5 d6 d7 d8 d9 PD PE;have HW:=hide hw;clear hw;go_enter Tryz.func9,Tryz.ntmps9;go_wp2_with fail;obtain ⟨sw,lZ⟩: ∃W,W=w.alloc (.cells #[.string ⟨#[97]⟩,.int .i64 2,.bool false,.string ⟨#[98]⟩,.int .i64 2,.bool false] 82):=⟨_,rfl⟩;obtain ⟨g1,hg1⟩: ∃q,q=w.heap.size:=⟨_,rfl⟩;have KL:Hid (dJ sw g1 82 [.string ⟨#[97]⟩,.int .i64 2,.bool false,.string ⟨#[98]⟩,.int .i64 2,.bool false]):=hide (by rw[lZ,hg1];exact dJ.made _ _ _);have NS:Hid (sw.heap.size=g1+1):=hide (by rw[lZ,hg1];exact World.size_alloc _ _);have KW:Hid (Below w.heap.size w sw):=hide (by rw[lZ];exact ae);have Hg:Hid (w.heap.size<=g1):=hide (by rw[hg1];exact Nat.le_refl _);rw[<-lZ,<-hg1];have Qg:=hide hg1;clear lZ hg1;have xU:=hide KW.out;have hs1:=xU.out.size;refine (iw _ 1 1 (by omega) (by omega) (by omega) (by omega)).mono ?_;rintro e w2 ⟨⟨A1,c1,rfl,h1⟩,hb2⟩;have KL:=hide (KL.out.below hb2);have Nv:=hide (aa xU.out hb2);clear hb2;replace h1:=h1.rebase hs1;have H1:=hide h1;clear h1;have hs2:=Nv.out.size;go_wp2_with fail;refine (iw _ 1 2 (by omega) (by omega) (by omega) (by omega)).mono ?_;rintro e w3 ⟨⟨A2,c2,rfl,h2⟩,hb3⟩;have KL:=hide (KL.out.below hb3);have H1:=hide (H1.out.below hb3);have Nw:=hide (aa Nv.out hb3);clear hb3;replace h2:=h2.rebase hs2;have H2:=hide h2;clear h2;have hs3:=Nw.out.size;go_wp2_with fail;refine (iw _ 2 9 (by omega) (by omega) (by omega) (by omega)).mono ?_;rintro e w4 ⟨⟨A3,c3,rfl,h3⟩,hb4⟩;have KL:=hide (KL.out.below hb4);have H1:=hide (H1.out.below hb4);have H2:=hide (H2.out.below hb4);have Ny:=hide (aa Nw.out hb4);clear hb4;replace h3:=h3.rebase hs3;have H3:=hide h3;clear h3;go_upto_region 3 with (fail);obtain ⟨rG,l5⟩: ∃W,W=w4.alloc (.cells #[.slice A1 2 c1,.int .i64 1,.slice A2 2 c2,.int .i64 1,.slice A3 2 c3,.int .i64 3] 50):=⟨_,rfl⟩;obtain ⟨g2,hg2⟩: ∃q,q=w4.heap.size:=⟨_,rfl⟩;have KE:Hid (dJ rG g2 50 [.slice A1 2 c1,.int .i64 1,.slice A2 2 c2,.int .i64 1,.slice A3 2 c3,.int .i64 3]):=hide (by rw[l5,hg2];exact dJ.made _ _ _);have K5:Hid (rG.heap.size=g2+1):=hide (by rw[l5,hg2];exact World.size_alloc _ _);have xS:Hid (Below w4.heap.size w4 rG):=hide (by rw[l5];exact ae);have Hl:Hid (w.heap.size<=g2):=hide (by rw[hg2];exact Ny.out.size);have Hy:Hid (¬g1=g2):=hide (by have h:=KL.out.lt;omega);rw[<-l5,<-hg2];have Qh:=hide hg2;clear l5 hg2;have KL:=hide (KL.out.below xS.out);have H1:=hide (H1.out.below xS.out);have H2:=hide (H2.out.below xS.out);have H3:=hide (H3.out.below xS.out);have xW:=hide (aa Ny.out xS.out);obtain ⟨Au,yM⟩: ∃W,W=rG.alloc (.cells #[.string ⟨#[114]⟩,.slice (some ⟨g1,0,none⟩) 2 2,.slice none 0 0,.slice (some ⟨g2,0,none⟩) 3 3] 29):=⟨_,rfl⟩;obtain ⟨g3,hg3⟩: ∃q,q=rG.heap.size:=⟨_,rfl⟩;have KR:Hid (dJ Au g3 29 [.string ⟨#[114]⟩,.slice (some ⟨g1,0,none⟩) 2 2,.slice none 0 0,.slice (some ⟨g2,0,none⟩) 3 3]):=hide (by rw[yM,hg3];exact dJ.made _ _ _);have NT:Hid (Au.heap.size=g3+1):=hide (by rw[yM,hg3];exact World.size_alloc _ _);have uP:Hid (Below rG.heap.size rG Au):=hide (by rw[yM];exact ae);have Hm:Hid (w.heap.size<=g3):=hide (by rw[hg3];exact xW.out.size);have Hz:Hid (¬g1=g3):=hide (by have h:=KL.out.lt;omega);have Ia:Hid (¬g2=g3):=hide (by have h:=KE.out.lt;omega);have FQ:g3=g2+1:=by rw[hg3];exact K5.out
 rw[<-yM,<-FQ];clear FQ;have Qi:=hide hg3;clear yM hg3;have KL:=hide (KL.out.below uP.out);have KE:=hide (KE.out.below uP.out);have H1:=hide (H1.out.below uP.out);have H2:=hide (H2.out.below uP.out);have H3:=hide (H3.out.below uP.out);have xX:=hide (aa xW.out uP.out);obtain ⟨Av,yN⟩: ∃W,W=Au.alloc (.cells #[.string ⟨#[97]⟩] 9):=⟨_,rfl⟩;obtain ⟨g4,hg4⟩: ∃q,q=Au.heap.size:=⟨_,rfl⟩;have KN:Hid (dJ Av g4 9 [.string ⟨#[97]⟩]):=hide (by rw[yN,hg4];exact dJ.made _ _ _);have NU:Hid (Av.heap.size=g4+1):=hide (by rw[yN,hg4];exact World.size_alloc _ _);have nU:Hid (Below Au.heap.size Au Av):=hide (by rw[yN];exact ae);have KD:Hid (w.heap.size<=g4):=hide (by rw[hg4];exact xX.out.size);have H5:Hid (¬g1=g4):=hide (by have h:=KL.out.lt;omega);have Ib:Hid (¬g2=g4):=hide (by have h:=KE.out.lt;omega);have Ig:Hid (¬g3=g4):=hide (by have h:=KR.out.lt;omega);have OO:g4=g3+1:=by rw[hg4];exact NT.out
 rw[<-yN,<-OO];clear OO;have Qj:=hide hg4;clear yN hg4;have KL:=hide (KL.out.below nU.out);have KE:=hide (KE.out.below nU.out);have KR:=hide (KR.out.below nU.out);have H1:=hide (H1.out.below nU.out);have H2:=hide (H2.out.below nU.out);have H3:=hide (H3.out.below nU.out);have xY:=hide (aa xX.out nU.out);obtain ⟨rH,l6⟩: ∃W,W=Av.alloc (.cells #[.string ⟨#[98]⟩] 9):=⟨_,rfl⟩;obtain ⟨g5,hg5⟩: ∃q,q=Av.heap.size:=⟨_,rfl⟩;have KM:Hid (dJ rH g5 9 [.string ⟨#[98]⟩]):=hide (by rw[l6,hg5];exact dJ.made _ _ _);have NW:Hid (rH.heap.size=g5+1):=hide (by rw[l6,hg5];exact World.size_alloc _ _);have lH:Hid (Below Av.heap.size Av rH):=hide (by rw[l6];exact ae);have KF:Hid (w.heap.size<=g5):=hide (by rw[hg5];exact xY.out.size);have H8:Hid (¬g1=g5):=hide (by have h:=KL.out.lt;omega);have Ic:Hid (¬g2=g5):=hide (by have h:=KE.out.lt;omega);have Ih:Hid (¬g3=g5):=hide (by have h:=KR.out.lt;omega);have Ij:Hid (¬g4=g5):=hide (by have h:=KN.out.lt;omega);have OP:g5=g4+1:=by rw[hg5];exact NU.out
 rw[<-l6,<-OP];clear OP;have Qk:=hide hg5;clear l6 hg5;have KL:=hide (KL.out.below lH.out);have KE:=hide (KE.out.below lH.out);have KR:=hide (KR.out.below lH.out);have KN:=hide (KN.out.below lH.out);have H1:=hide (H1.out.below lH.out);have H2:=hide (H2.out.below lH.out);have H3:=hide (H3.out.below lH.out);have vF:=hide (aa xY.out lH.out);obtain ⟨Iw,yO⟩: ∃W,W=rH.alloc (.cells #[.string ⟨#[117]⟩,.string ⟨#[114]⟩,.int .i64 0,.slice (some ⟨g4,0,none⟩) 1 1,.string ⟨#[]⟩,.slice none 0 0,.int .i64 0,.int .i64 0,.slice none 0 0,.int .i64 0,.int .i64 0,.int .i64 0,.int .i64 0,.int .i64 0,.string ⟨#[103]⟩,.string ⟨#[114]⟩,.int .i64 2,.slice (some ⟨g5,0,none⟩) 1 1,.string ⟨#[]⟩,.slice none 0 0,.int .i64 0,.int .i64 5,.slice none 0 0,.int .i64 0,.int .i64 0,.int .i64 0,.int .i64 0,.int .i64 0] 48):=⟨_,rfl⟩;obtain ⟨g6,om⟩: ∃q,q=rH.heap.size:=⟨_,rfl⟩;have KC:Hid (dJ Iw g6 48 [.string ⟨#[117]⟩,.string ⟨#[114]⟩,.int .i64 0,.slice (some ⟨g4,0,none⟩) 1 1,.string ⟨#[]⟩,.slice none 0 0,.int .i64 0,.int .i64 0,.slice none 0 0,.int .i64 0,.int .i64 0,.int .i64 0,.int .i64 0,.int .i64 0,.string ⟨#[103]⟩,.string ⟨#[114]⟩,.int .i64 2,.slice (some ⟨g5,0,none⟩) 1 1,.string ⟨#[]⟩,.slice none 0 0,.int .i64 0,.int .i64 5,.slice none 0 0,.int .i64 0,.int .i64 0,.int .i64 0,.int .i64 0,.int .i64 0]):=hide (by rw[yO,om];exact dJ.made _ _ _);have Q0:Hid (Iw.heap.size=g6+1):=hide (by rw[yO,om];exact World.size_alloc _ _);have oP:Hid (Below rH.heap.size rH Iw):=hide (by rw[yO];exact ae);have M4:Hid (w.heap.size<=g6):=hide (by rw[om];exact vF.out.size);have H9:Hid (¬g1=g6):=hide (by have h:=KL.out.lt;omega);have Ie:Hid (¬g2=g6):=hide (by have h:=KE.out.lt;omega);have Ii:Hid (¬g3=g6):=hide (by have h:=KR.out.lt;omega);have Ik:Hid (¬g4=g6):=hide (by have h:=KN.out.lt;omega);have BR:Hid (¬g5=g6):=hide (by have h:=KM.out.lt;omega);have OQ:g6=g5+1:=by rw[om];exact NW.out
 rw[<-yO,<-OQ];clear OQ;have M0:=hide om;clear yO om;have KL:=hide (KL.out.below oP.out);have KE:=hide (KE.out.below oP.out);have KR:=hide (KR.out.below oP.out);have KN:=hide (KN.out.below oP.out);have KM:=hide (KM.out.below oP.out);have H1:=hide (H1.out.below oP.out);have H2:=hide (H2.out.below oP.out);have H3:=hide (H3.out.below oP.out);have xZ:=hide (aa vF.out oP.out);obtain ⟨NL,r0,r1,r2,r3⟩:=KR.out.ats4;obtain ⟨Wk,Tk⟩: ∃W,W=Iw:=⟨_,rfl⟩;have hbk:=xZ.out;rw[<-Tk]at r0 r1 r2 r3 KL KE KR KN KM KC H1 H2 H3 hbk NL⊢;clear Tk;have Mc:=hide hbk;have Va:=hide (HW.out.below hbk);have R0:=hide r0;have R1:=hide r1;have R2:=hide r2;have R3:=hide r3;have RL:=hide NL;have I1:=hide (iK H1.out rfl);have I2:=hide (iK H2.out rfl);have I3:=hide (iK H3.out rfl);clear hbk;have zU:True:=trivial;go_region_held3 (λV=>V.cell? ⟨g3,0,none⟩=some (.string ⟨#[114]⟩)/\V.cell? ⟨g3,1,none⟩=some (.slice (some ⟨g1,0,none⟩) 2 2)/\V.cell? ⟨g3,2,none⟩=some (.slice none 0 0)/\V.cell? ⟨g3,3,none⟩=some (.slice (some ⟨g2,0,none⟩) 3 3))
  (first|exact ⟨aj GG.out RL.out R0.out,aj GG.out RL.out R1.out,aj GG.out RL.out R2.out,aj GG.out RL.out R3.out⟩|exact ⟨aj xO.out RL.out R0.out,aj xO.out RL.out R1.out,aj xO.out RL.out R2.out,aj xO.out RL.out R3.out⟩|exact ⟨aj (aa xO.out ae) RL.out R0.out,aj (aa xO.out ae) RL.out R1.out,aj (aa xO.out ae) RL.out R2.out,aj (aa xO.out ae) RL.out R3.out⟩|exact ⟨r0,r1,r2,r3⟩)
  (first|(clear zU;go_at_call 28;refine (iw _ 1 2 (by omega) (by omega) (by omega) (by omega)).mono ?_;rintro e wA ⟨⟨AA,cA,rfl,hA⟩,Mw⟩;have IA:=hide (iK hA rfl);have xO:=hide (ak Mw);clear hA Mw;have VY:True:=trivial)|(clear zU;go_at_call 28;refine (iw _ 2 9 (by omega) (by omega) (by omega) (by omega)).mono ?_;rintro e wB ⟨⟨AB,cB,rfl,hB⟩,Mx⟩;have IB:=hide (iK hB rfl);have xO:=hide (ak Mx);clear hB Mx;have VZ:True:=trivial)|(clear VY;go_at_call 28;refine (iw _ 2 9 (by omega) (by omega) (by omega) (by omega)).mono ?_;rintro e wB ⟨⟨AB,cB,rfl,hB⟩,Mx⟩;have IB:=hide (iK hB rfl);have IA:=hide (IA.out.below Mx);have xO:=hide (aa xO.out Mx);clear hB Mx;have TT:True:=trivial)|(clear VZ;go_at_call 28;refine (iw _ 1 2 (by omega) (by omega) (by omega) (by omega)).mono ?_;rintro e wA ⟨⟨AA,cA,rfl,hA⟩,Mw⟩;have IA:=hide (iK hA rfl);have IB:=hide (IB.out.below Mw);have xO:=hide (aa xO.out Mw);clear hA Mw;have TT:True:=trivial)|(clear TT;go_at_call 14;have hbl:=aa xO.out (ae (o:=.cells #[.string ⟨#[117]⟩,.slice AA 2 cA,.string ⟨#[117]⟩,.slice AB 2 cB] 33));refine (Kz.out _ _ (II (KL.out.below hbl)) _ (Lh (KE.out.below hbl) (I1.out.below hbl) (I2.out.below hbl) (I3.out.below hbl)) _ (IJ (KC.out.below hbl) (qG (by decide) (KN.out.below hbl)) (qG (by decide) (KM.out.below hbl))) _ (L9 (dJ.made _ _ _) (IA.out.below ae) (IB.out.below ae)) (Va.out.below hbl)).mono ?_;rintro e w9 ⟨⟨A7,m7,c7,A8,m8,c8,rfl,MC,FK⟩,fo⟩;have GG:=hide (aa hbl fo);obtain rfl:m7=1:=MC.len.symm;obtain rfl:m8=2:=FK.len.symm;clear hbl fo;obtain ⟨b7,o7,y7,rfl, -,TP,Ay,ny,cy,t0, -,hty, -⟩:=MC.ent (k:=0) (by omega);obtain rfl:y=y7:=(List.cons.inj TP).1;obtain rfl:ny=2:=hty.len.symm.trans D3.out;obtain ⟨WH,oy,vy,rfl, -,TM, -,t1, -, -⟩:=hty.val (k:=1) (by omega);have htn:vy.num=2:=(by simpa[List.getD_eq_getElem?_getD,(bE TM).1] using D4.out);rw[htn]at t1;obtain ⟨b8,o8,p8,rfl, -,Tz,Ap,np,cp,Aq,nq,cq,p0,p1,p2,p3, -,hpc, -, -⟩:=FK.quar (k:=0) (by omega);obtain rfl:p=p8:=(List.cons.inj Tz).1;obtain ⟨WG,WO,q8,Q8, -,hq8,Wv,WN,cp2,Ww,V6,WI,q0,q1,q2,q3, -,hqc, -, -⟩:=FK.quar (k:=1) (by omega);injection Q8 with Q8;injection Q8 with e8a e8b;subst e8a e8b;obtain rfl:q=q8:=(List.cons.inj hq8).1;obtain rfl:nq=1:=hpc.len.symm.trans D7.out;obtain rfl:V6=1:=hqc.len.symm.trans Ua.out;obtain ⟨bs,os,s8,rfl, -,Kb,s0, -⟩:=hpc.str (k:=0) (by omega);obtain ⟨bu,ou,u8,rfl, -,TI,u0, -⟩:=hqc.str (k:=0) (by omega);have TD:s8=⟨#[117]⟩:=ba_eq (by rw[show s8.toList=[117] from by simpa[List.getD_eq_getElem?_getD,(bE Kb).1] using D8.out];decide+kernel);have TJ:u8=⟨#[103]⟩:=ba_eq (by rw[show u8.toList=[103] from by simpa[List.getD_eq_getElem?_getD,(bE TI).1] using Ub.out];decide+kernel);have TB:p.relation=⟨#[114]⟩:=ba_eq (D6.out.trans (by decide+kernel));rw[TD]at s0;rw[TJ]at u0;rw[TB]at p0;rw[D9.out]at q2;clear Kb TI TD TJ TB TP TM htn Tz hq8 hpc hqc hty MC FK;(try simp only[Nat.zero_mul,Nat.add_zero,Nat.one_mul,Nat.zero_add]at t0 t1 p0 p1 p2 p3 q0 q1 q2 q3 s0 u0)))
 all_goals (go_wp2;go_ret;exact ⟨rfl,aa Mc.out GG.out⟩)
theorem qM (w:World)(gb:Nat)(A:Option Addr)(n c:Nat)(l:List Int)(i:Nat)(hN:Num w gb A n c l i)(A1:Option Addr)(n1 c1:Nat)(hc:Off w gb A1 n1 c1 fA)(m:Int)(hm0:0<=m)(hm1:m<=1000):
  Calls Tryz.prog 19 #[.slice A1 n1 c1,.pointer (some ⟨gb,0,none⟩),.int .i64 m] w
   λe w'=>(∃A' c' zs j,e=.returned (.slice A' zs.length c')/\Hi w.heap.size w' A' zs.length c' zs/\nH fA zs/\Num w' gb A n c l j)/\w.grownBy w' (some gb):=by
 have hl:=hc.inn.len;refine (BF w gb A n c l i hN A1 n1 c1 fA hc yo (by rw[<-hl];decide) m hm0 hm1).mono ?_;rintro e w' ⟨v,xs,zs,q,j,rfl,hf,hx,hxl,hno,PN,hg4⟩;obtain ⟨A4,c4,rfl,Rv⟩:=hf.hi;exact ⟨⟨A4,c4,zs,j,rfl,Rv,⟨xs,q,hx,hxl,hno⟩,PN⟩,hg4⟩
theorem Hi.low {α:Type}[Rep α]{B B' n c:Nat}{w:World}{A:Option Addr}{xs:List α}(h:Hi B' w A n c xs)(hB:B<=B'):Hi B w A n c xs:=Sl.mono (λk hk=>⟨Nat.le_trans hB hk.1,hk.2⟩) h
theorem y8 {V:World}{B d n c:Nat}{xs:List Col}(h:In V (some ⟨d,0,none⟩) n c xs)(hd:B<=d):Hi B V (some ⟨d,0,none⟩) n c xs:=
 Oz h (λ_ _ _ _ h=>h) λb off e=>by injection e with e;injection e with e1 e2;omega
def lN (B:Nat)(V V':World):Prop:=V.heap.size<=V'.heap.size/\ ∀k,B<=k->k<V.heap.size->V'.heap[k]?=V.heap[k]?
theorem lN.below {B:Nat}{V V':World}(hb:Below V.heap.size V V'):lN B V V':=⟨hb.size,λk _ hk=>hb.block k hk⟩
theorem lN.grown {B g:Nat}{V V':World}(hg:V.grownBy V' (some g))(h:g<B):lN B V V':=⟨hg.size,λk hk h2=>hg.block k h2 λe=>by injection e with e;omega⟩
theorem lN.trans {B:Nat}{a b c:World}(h:lN B a b)(h':lN B b c):lN B a c:=⟨Nat.le_trans h.1 h'.1,λk h1 h2=>(h'.2 k h1 (Nat.lt_of_lt_of_le h2 h.1)).trans (h.2 k h1 h2)⟩
theorem lN.set {B g:Nat}{a b:World}(h:lN B a b)(hg:a.heap.size<=g)(o:Nat)(v:Value):lN B a (b.setCell ⟨g,o,none⟩ v):=
 ⟨by simpa using h.1,λk h1 h2=>(Below.heap_setCell _ _ _ k (λq=>by have q:k=g:=q;omega)).trans (h.2 k h1 h2)⟩
theorem Hi.up30 {α:Type}[Rep α]{B n c:Nat}{V V':World}{A:Option Addr}{xs:List α}(h:Hi B V A n c xs)(hu:lN B V V'):Hi B V' A n c xs:=
 (Sl.keep (λk (hk:B<=k/\k<V.heap.size)=>hu.2 k hk.1 hk.2) h).mono λk (hk:B<=k/\k<V.heap.size)=>⟨hk.1,Nat.lt_of_lt_of_le hk.2 hu.1⟩
theorem dJ.up30 {B d:Nat}{V V':World}{t:TypeId}{l:List Value}(h:dJ V d t l)(hd:B<=d)(hu:lN B V V'):dJ V' d t l:=(hu.2 d hd h.lt).trans h
theorem uj {V w:World}{g:Nat}{A:Option Addr}{n c:Nat}{l:List Int}(hb:dJ V g 64 [.slice A n c,.int .i64 0])(hl:In w A n c l)(hw:Below w.heap.size w V)(hg:w.heap.size<=g)(hn:n<=1048576):Num V g A n c l 0:=
 ⟨hb.at 0 rfl,hb.at 1 rfl,⟨_,hb,rfl⟩,(hl.keep (Same.below hw)).mono λk (hk:k<w.heap.size)=>by omega,Nat.zero_le _,hn⟩
def nm30:Nat->ByteArray
 | 0=>⟨#[97]⟩
 | 1=>⟨#[98]⟩
 | 2=>⟨#[99]⟩
 | 3=>⟨#[100]⟩
 | _=>⟨#[101]⟩
theorem nm30_inj {i j:Nat}(hi:i<5)(hj:j<5)(h:nm30 i=nm30 j):i=j:=by
 have h1:i=0\/i=1\/i=2\/i=3\/i=4:=by omega
 have h2:j=0\/j=1\/j=2\/j=3\/j=4:=by omega
 rcases h1 with rfl|rfl|rfl|rfl|rfl <;> rcases h2 with rfl|rfl|rfl|rfl|rfl <;> first|rfl|(exfalso;revert h;decide)
theorem nm30_str (k:Nat):Str (nm30 k):=by
 unfold nm30 Str
 split <;> decide
def Ord30 (w Wo:World)(B g4 gg gh:Nat):Prop:=w.heap.size<=g4/\g4<gg/\gg<gh/\gh<B/\B<=Wo.heap.size
structure S30 (w Wo:World) (B g4 gg gh:Nat) (A:Option Addr) (n c:Nat) (l:List Int) (A2:Option Addr) (n2 c2:Nat) (l2:List Int) (V:World):Prop where
 ng: ∃j,Num V gg A n c l j
 nh: ∃j,Num V gh A2 n2 c2 l2 j
 k4:dJ V g4 29 [.string ⟨#[]⟩,.slice none 0 0,.slice none 0 0,.slice none 0 0]
 up:lN B Wo V
 bel:Below w.heap.size w V
section
variable {w Wo V V':World}{B g4 gg gh:Nat}{A:Option Addr}{n c:Nat}{l:List Int}{A2:Option Addr}{n2 c2:Nat}{l2:List Int}
theorem S30.below (h:S30 w Wo B g4 gg gh A n c l A2 n2 c2 l2 V)(hb:Below V.heap.size V V'):S30 w Wo B g4 gg gh A n c l A2 n2 c2 l2 V':=by
 obtain ⟨j,h1⟩:=h.ng;obtain ⟨j2,h2⟩:=h.nh;exact ⟨⟨j,h1.below hb⟩,⟨j2,h2.below hb⟩,h.k4.below hb,h.up.trans (lN.below hb),aa h.bel hb⟩
theorem S30.nexth (h:S30 w Wo B g4 gg gh A n c l A2 n2 c2 l2 V)(ho:Ord30 w Wo B g4 gg gh){j:Nat}(hN:Num V' gh A2 n2 c2 l2 j)(hg:V.grownBy V' (some gh)):S30 w Wo B g4 gg gh A n c l A2 n2 c2 l2 V':=by
 obtain ⟨o1,o2,o3,o4,o5⟩:=ho;obtain ⟨j1,h1⟩:=h.ng;exact ⟨⟨j1,h1.grown hg λk e=>by injection e with e;omega⟩,⟨j,hN⟩,h.k4.grown hg (λe=>by injection e with e;omega),h.up.trans (lN.grown hg o4),gH h.bel hg h.bel.size (by omega)⟩
theorem S30.nextg (h:S30 w Wo B g4 gg gh A n c l A2 n2 c2 l2 V)(ho:Ord30 w Wo B g4 gg gh)(hl:In w A2 n2 c2 l2){j:Nat}(hN:Num V' gg A n c l j)(hg:V.grownBy V' (some gg)):S30 w Wo B g4 gg gh A n c l A2 n2 c2 l2 V':=by
 obtain ⟨o1,o2,o3,o4,o5⟩:=ho;obtain ⟨j2,h2⟩:=h.nh;exact ⟨⟨j,hN⟩,⟨j2,h2.other hl h.bel (by omega) (by omega) (by omega) hg⟩,h.k4.grown hg (λe=>by injection e with e;omega),h.up.trans (lN.grown hg (by omega)),gH h.bel hg h.bel.size (by omega)⟩
theorem S30.own (h:S30 w Wo B g4 gg gh A n c l A2 n2 c2 l2 V)(ho:Ord30 w Wo B g4 gg gh){r:Option Nat}(hg:V.grownBy V' r)(hr: ∀k,r=some k->Wo.heap.size<=k):S30 w Wo B g4 gg gh A n c l A2 n2 c2 l2 V':=by
 obtain ⟨o1,o2,o3,o4,o5⟩:=ho;obtain ⟨j1,h1⟩:=h.ng;obtain ⟨j2,h2⟩:=h.nh;refine ⟨⟨j1,h1.grown hg λk e=>by have:=hr k e;omega⟩,⟨j2,h2.grown hg λk e=>by have:=hr k e;omega⟩,h.k4.grown hg (λe=>by have:=hr g4 e.symm;omega),⟨Nat.le_trans h.up.1 hg.size,λk h3 h4=>?_⟩,h.bel.grown hg h.bel.size λk e=>by have:=hr k e;omega⟩;exact (hg.block k (Nat.lt_of_lt_of_le h4 h.up.1) λe=>by have:=hr k e.symm;omega).trans (h.up.2 k h3 h4)
theorem S30.set (h:S30 w Wo B g4 gg gh A n c l A2 n2 c2 l2 V)(ho:Ord30 w Wo B g4 gg gh){g:Nat}(hg:Wo.heap.size<=g)(o:Nat)(v:Value):S30 w Wo B g4 gg gh A n c l A2 n2 c2 l2 (V.setCell ⟨g,o,none⟩ v):=
 h.own ho mQ λk e=>by injection e with e;omega
end
def CkL (Bo:Nat)(V:World)(A':Option Addr)(n' c':Nat)(bX:Option Addr)(n'' c'':Nat)(A3:Option Addr)(n3 c3:Nat)(cc:Chk):Prop:=
 Sl V (BS Bo (λ_=>False) [9,89] V) A' n' c' cc.cols/\Sl V (BS Bo (λ_=>False) [9,89] V) bX n'' c'' cc.ocols/\Sl V (BS Bo (λ_=>False) [9,89] V) A3 n3 c3 cc.cond
def Ck30 (Bo k:Nat)(V:World)(g:Nat):Prop:= ∃(cc:Chk) (A':Option Addr) (n' c':Nat) (bX:Option Addr) (n'' c'':Nat) (A3:Option Addr) (n3 c3:Nat),nG cc/\cc.name=nm30 k/\Str cc.table/\dJ V g 48 (aR cc A' n' c' bX n'' c'' A3 n3 c3)/\CkL Bo V A' n' c' bX n'' c'' A3 n3 c3 cc
theorem sl_bs_kept {α:Type}[Rep α]{w w':World}{B n c:Nat}{O:Nat->Prop}{T:List TypeId}{A:Option Addr}{xs:List α}(hs:Sl w (BS B O T w) A n c xs)(hk: ∀k,BS B O T w k->w'.heap[k]?=w.heap[k]?):Sl w' (BS B O T w') A n c xs:=
 (Sl.keep (λk h=>hk k h) hs).mono λk h=>h.kept (hk k h)
theorem CkL.kept {Bo:Nat}{V V':World}{A':Option Addr}{n' c':Nat}{bX:Option Addr}{n'' c'':Nat}{A3:Option Addr}{n3 c3:Nat}{cc:Chk}(h:CkL Bo V A' n' c' bX n'' c'' A3 n3 c3 cc)(hk: ∀k,BS Bo (λ_=>False) [9,89] V k->V'.heap[k]?=V.heap[k]?):CkL Bo V' A' n' c' bX n'' c'' A3 n3 c3 cc:=
 ⟨sl_bs_kept h.1 hk,sl_bs_kept h.2.1 hk,sl_bs_kept h.2.2 hk⟩
theorem bs30_not {Bo:Nat}{V:World}{k:Nat}(h:BS Bo (λ_=>False) [9,89] V k){t:TypeId}{g:Nat}(hg:bi V t g)(ht:t≠9/\t≠89):k≠g:=λe=>by
 subst e;rcases h with ⟨h,_⟩|⟨_,t',ht',h⟩
 ·exact h
 ·simp only[List.mem_cons,List.not_mem_nil,or_false]at ht';rcases ht' with rfl|rfl
  ·exact bi.ne hg h ht.1 rfl
  ·exact bi.ne hg h ht.2 rfl
theorem CkL.below {Bo:Nat}{V V':World}{A':Option Addr}{n' c':Nat}{bX:Option Addr}{n'' c'':Nat}{A3:Option Addr}{n3 c3:Nat}{cc:Chk}(h:CkL Bo V A' n' c' bX n'' c'' A3 n3 c3 cc)(hB:Bo<=V.heap.size)(hb:Below V.heap.size V V'):CkL Bo V' A' n' c' bX n'' c'' A3 n3 c3 cc:=
 h.kept λk hk=>hb.block k (hk.lt hB)
theorem CkL.off {Bo:Nat}{V V':World}{A':Option Addr}{n' c':Nat}{bX:Option Addr}{n'' c'':Nat}{A3:Option Addr}{n3 c3:Nat}{cc:Chk}(h:CkL Bo V A' n' c' bX n'' c'' A3 n3 c3 cc)(hB:Bo<=V.heap.size){g:Nat}{t:TypeId}(hg:bi V t g)(ht:t≠9/\t≠89)(hb:V.grownBy V' (some g)):CkL Bo V' A' n' c' bX n'' c'' A3 n3 c3 cc:=
 h.kept λk hk=>hb.block k (hk.lt hB) λe=>bs30_not hk hg ht (by injection e)
theorem Ck30.below {Bo k g:Nat}{V V':World}(h:Ck30 Bo k V g)(hB:Bo<=V.heap.size)(hb:Below V.heap.size V V'):Ck30 Bo k V' g:=by
 obtain ⟨cc,A',n',c',bX,n'',c'',A3,n3,c3,h1,h2,h2b,h3,h4⟩:=h;exact ⟨cc,A',n',c',bX,n'',c'',A3,n3,c3,h1,h2,h2b,h3.below hb,h4.below hB hb⟩
theorem Ck30.nexth {Bo k g gh:Nat}{V V':World}(h:Ck30 Bo k V g)(hB:Bo<=V.heap.size){t:TypeId}(ht:bi V t gh)(hne:t≠9/\t≠89)(hgh:gh≠g)(hg:V.grownBy V' (some gh)):Ck30 Bo k V' g:=by
 obtain ⟨cc,A',n',c',bX,n'',c'',A3,n3,c3,h1,h2,h2b,h3,h4⟩:=h;exact ⟨cc,A',n',c',bX,n'',c'',A3,n3,c3,h1,h2,h2b,h3.grown hg (λe=>by injection e with e;exact hgh e.symm),h4.off hB ht hne hg⟩
theorem goodQ_table {c:Chk}(h:nG c)(t:ByteArray):nG {c with table:=t}:=by
 obtain ⟨zC,hp,hc⟩:=h;refine ⟨zC,hp,?_⟩;simp only[tQ,List.mem_cons,List.not_mem_nil,or_false]at hc⊢;rcases hc with h|h|h|h|h|h|h|h|h <;> rw[h] <;> simp[kP]
theorem Ck30.table {Bo k g:Nat}{V:World}(h:Ck30 Bo k V g)(hB:Bo<=V.heap.size)(t:ByteArray)(ht:Str t):Ck30 Bo k (V.setCell ⟨g,1,none⟩ (.string t)) g:=by
 obtain ⟨cc,A',n',c',bX,n'',c'',A3,n3,c3,h1,h2,h2b,h3,h4⟩:=h;refine ⟨{cc with table:=t},A',n',c',bX,n'',c'',A3,n3,c3,goodQ_table h1 t,h2,ht,h3.set 1 _,?_⟩;exact h4.off hB h3.ty ⟨by decide,by decide⟩ mQ
theorem sl_names {V:World}{Bo d n:Nat}{xs:List ByteArray}(hb:dJ V d 9 (xs.map Value.string))(hd:Bo<=d)(hn:xs.length=n)(hm:n<=maxLen)(hs: ∀s∈xs,Str s):Sl V (BS Bo (λ_=>False) [9,89] V) (some ⟨d,0,none⟩) n n xs:=by
 have hc: ∀(xs:List ByteArray) (S:Nat->Prop),(∀s∈xs,Str s)->Cells V S (xs.map Value.string) xs:=by
  intro xs
  induction xs with
  |nil=>intro S _;rfl
  |cons x l ih=>intro S h;exact ⟨[.string x],l.map Value.string,rfl,⟨rfl,h x (by simp)⟩,ih S λy hy=>h y (by simp[hy])⟩
 have h1:In V (some ⟨d,0,none⟩) n n xs:=fC hb (by simpa using hc xs _ hs) hn hm;refine ⟨h1.1,h1.2.1,h1.2.2.1,h1.2.2.2.1,λhp=>?_⟩;obtain ⟨b,off,e,hlt,hi⟩:=h1.2.2.2.2 hp;have e2:=e;injection e2 with e2;injection e2 with e3 e4;subst e3;refine ⟨d,off,e,.inr ⟨hd,_,by simp,hb.ty⟩,λi hi'=>?_⟩;obtain ⟨cs,h1,h3⟩:=hi i hi';exact ⟨cs,h1,h3⟩
theorem cells_nodes30 (xs:List Node)(w:World)(S:Nat->Prop)(h: ∀x∈xs,x.ok):Cells w S (xs.flatMap Node.cells) xs:=by
 induction xs with
 |nil=>rfl
 |cons x l ih=>exact ⟨x.cells,l.flatMap Node.cells,rfl,⟨rfl,h x (by simp)⟩,ih λy hy=>h y (by simp[hy])⟩
theorem l30_ok: ∀x∈VP,x.ok:=by
 intro x hx;simp only[VP,List.mem_cons,List.not_mem_nil,or_false]at hx;rcases hx with rfl|rfl|rfl <;> refine ⟨⟨by decide,by decide⟩,⟨⟨by decide,by decide⟩,⟨by decide,by decide⟩,?_⟩,?_,⟨by decide,by decide⟩,by simp[Im]⟩ <;> (unfold Str;decide)
theorem sl_l30 {V:World}{Bo d:Nat}(hb:dJ V d 89 (VP.flatMap Node.cells))(hd:Bo<=d):Sl V (BS Bo (λ_=>False) [9,89] V) (some ⟨d,0,none⟩) 3 3 VP:=by
 have h1:In V (some ⟨d,0,none⟩) 3 3 VP:=fC hb (by simpa using cells_nodes30 VP V _ l30_ok) rfl (by decide);refine ⟨h1.1,h1.2.1,h1.2.2.1,h1.2.2.2.1,λhp=>?_⟩;obtain ⟨b,off,e,hlt,hi⟩:=h1.2.2.2.2 hp;have e2:=e;injection e2 with e2;injection e2 with e3 e4;subst e3;refine ⟨d,off,e,.inr ⟨hd,_,by simp,hb.ty⟩,λi hi'=>?_⟩;obtain ⟨cs,h1,h3⟩:=hi i hi';exact ⟨cs,h1,h3⟩
theorem OL.up30 {α:Type}[Rep α]{e:TypeId}{B:Nat}{T:List TypeId}{V V':World}{v:Value}{xs:List α}(h:OL e B (λ_=>False) T V v xs)(hu:lN B V V'):OL e B (λ_=>False) T V' v xs:=
 h.kept (λk hk=>by
  rcases hk with (⟨hk,_⟩|⟨hk,t,_,ht⟩)|hk
  ·exact hk.elim
  ·exact hu.2 k hk ht.lt
  ·exact hu.2 k (h.ty hk).1 (h.ty hk).2.lt) hu.1
theorem goodQ_ok {c:Chk}(h:nG c):dH c.kind/\Str c.other/\dH c.low/\dH c.high/\dH c.ln/\dH c.ld/\dH c.mn/\dH c.md/\dH c.policy:=by
 obtain ⟨zC,hp,hc⟩:=h;obtain ⟨i0,i1,i2,i3,i4,i5,s0,s1,s2,s3,s4⟩:=mq;have ip:dH zC:=by rcases hp with rfl|rfl <;> assumption
 simp only[tQ,List.mem_cons,List.not_mem_nil,or_false]at hc;rcases hc with h|h|h|h|h|h|h|h|h <;> rw[h] <;> simp only[kP] <;> refine ⟨?_,?_,?_,?_,?_,?_,?_,?_,?_⟩ <;> assumption
theorem chk30_rd {Bo:Nat}{V:World}{A':Option Addr}{n' c':Nat}{bX:Option Addr}{n'' c'':Nat}{A3:Option Addr}{n3 c3 k:Nat}{cc:Chk}(h:CkL Bo V A' n' c' bX n'' c'' A3 n3 c3 cc)(hg:nG cc)(hn:cc.name=nm30 k)(ht:Str cc.table):
  Rep.rd V (BS Bo (λ_=>False) [9,89] V) (aR cc A' n' c' bX n'' c'' A3 n3 c3) cc:=by
 obtain ⟨a,b,d,e,f,i,j,l,m⟩:=goodQ_ok hg;exact ⟨_,_,_,_,_,_,_,_,_,rfl,h.1,h.2.1,h.2.2,by rw[hn];exact nm30_str k,ht,a,b,d,e,f,i,j,l,m⟩
theorem elem_chk30:Elem Tryz.prog 39 48 14 184:=mM (.agg #[.string ⟨#[]⟩,.string ⟨#[]⟩,.int .i64 0,.slice none 0 0,.string ⟨#[]⟩,.slice none 0 0,.int .i64 0,.int .i64 0,.slice none 0 0,.int .i64 0,.int .i64 0,.int .i64 0,.int .i64 0,.int .i64 0]) Tryz.underlying39 (by kernel_rfl) rfl (by decide)
theorem elem_wvr30:Elem Tryz.prog 22 33 2 40:=mM (.agg #[.string ⟨#[]⟩,.slice none 0 0]) Tryz.underlying22 (by kernel_rfl) rfl (by decide)
theorem sl_nil {α:Type}[Rep α]{V:World}{S:Nat->Prop}:Sl (α:=α) V S none 0 0 []:=⟨rfl,Nat.le_refl _,by omega,λ_=>rfl,λh=>by omega⟩
end Go.Proofs.YtopjjlmfilgngaaGreatDoor
