/-
  warehouselaw28.known: the closed example. (Printed by gen_kn28.py.) warehouselaw28.CheckValidates, CheckViolations. (Printed by gen_lw28.py.)
-/
import Derived.Test.YtggejcekmehocaaGreatDoorGbb
import Derived.Test.YtggejcekmehocaaGreatDoorGbc
import Derived.Test.YtggejcekmehocaaGreatDoorBlk
namespace Go.Proofs.YtggejcekmehocaaGreatDoor
set_option maxHeartbeats 4000000
set_option maxRecDepth 100000
open Go.RowKit Go.Maps
set_option linter.unusedSimpArgs false
set_option linter.unusedVariables false
attribute [local go_sem ↓] Go.wp_at_zero Go.wp_at_succ
theorem zo (W:World)(a b:Int)(ha:ig a)(hb:ig b):In (W.alloc (.cells #[.int .i64 a,.int .i64 b] 3)) (some ⟨W.heap.size,0,none⟩) 2 2 [a,b]:=
 oD (heap_alloc_new W _) ⟨[_],[_],rfl,⟨rfl,ha⟩,Cells.one ⟨rfl,hb⟩⟩ rfl (by decide)
theorem I7 (W:World):In (W.alloc (.cells #[.string ⟨#[97]⟩,.int .i64 2,.bool false,.string ⟨#[98]⟩,.int .i64 2,.bool false] 82)) (some ⟨W.heap.size,0,none⟩) 2 2 bI:=by
 have h1: ∀V:World,Rep.rd V (λk=>k<V.heap.size) [.string ⟨#[97]⟩,.int .i64 2,.bool false] (⟨⟨#[97]⟩,2,false⟩:Col):=λV=>
  ⟨rfl,⟨by show (⟨#[97]⟩:ByteArray).size<=9223372036854775807;decide,by show (-9223372036854775808:Int)<=2;decide,by show (2:Int)<=9223372036854775807;decide⟩⟩
 have h2: ∀V:World,Rep.rd V (λk=>k<V.heap.size) [.string ⟨#[98]⟩,.int .i64 2,.bool false] (⟨⟨#[98]⟩,2,false⟩:Col):=λV=>
  ⟨rfl,⟨by show (⟨#[98]⟩:ByteArray).size<=9223372036854775807;decide,by show (-9223372036854775808:Int)<=2;decide,by show (2:Int)<=9223372036854775807;decide⟩⟩
 exact oD (heap_alloc_new W _) ⟨[_,_,_],[_,_,_],rfl,h1 _,Cells.one (h2 _)⟩ rfl (by decide)
theorem Ja (V:World)(g:Nat)(A1 A2 A3:Option Addr)(d1 d2 d3:Nat)(hb:gZ V g 61 [.slice A1 2 d1,.int .i64 1,.slice A2 2 d2,.int .i64 1,.slice A3 2 d3,.int .i64 1])(h1:In V A1 2 d1 [iV 1,iV 2])(h2:In V A2 2 d2 [iV 1,iV 3])(h3:In V A3 2 d3 [iV 2,iV 5]):
  In V (some ⟨g,0,none⟩) 3 3 cB:=
 oD hb ⟨[_,_],[_,_,_,_],rfl,⟨_,_,_,rfl,h1,⟨by decide,by decide⟩⟩,⟨[_,_],[_,_],rfl,⟨_,_,_,rfl,h2,⟨by decide,by decide⟩⟩,Cells.one ⟨_,_,_,rfl,h3,⟨by decide,by decide⟩⟩⟩⟩ rfl (by decide)
theorem C9 (V:World)(g:Nat)(s:ByteArray)(hs:Str s)(hb:gZ V g 9 [.string s]):In V (some ⟨g,0,none⟩) 1 1 [s]:=
 oD hb (Cells.one ⟨rfl,hs⟩) rfl (by decide)
theorem Bq (V:World)(g:Nat)(a b:Int)(ha:ig a)(hb:ig b)(hB:gZ V g 3 [.int .i64 a,.int .i64 b]):In V (some ⟨g,0,none⟩) 2 2 [a,b]:=
 oD hB ⟨[_],[_],rfl,⟨rfl,ha⟩,Cells.one ⟨rfl,hb⟩⟩ rfl (by decide)
theorem Qd:Str ⟨#[97]⟩:=by show (⟨#[97]⟩:ByteArray).size<=9223372036854775807;decide
theorem UY:Str ⟨#[98]⟩:=by show (⟨#[98]⟩:ByteArray).size<=9223372036854775807;decide
theorem jL {n:Int}(h0:0<=n)(h1:n<=1000):ig n:=⟨by omega,by omega⟩
theorem wT (w:World)(hw:Words w):
  Calls Tryz.prog 28 #[] w λe w'=>e=.returned (.bool true)/\Below w.heap.size w w':=by
 have Vh:=hide λW A1 c1 (hc:In W A1 2 c1 bI) A3 c3 (hr:In W A3 3 c3 cB) A c (hn:In W A 1 c [kA]) (hw:Words W)=>qf W rz A 1 c hn none 0 0 In.nil_ none 0 0 In.nil_ hw Mv A1 2 c1 bI hc none 0 0 A3 3 c3 cB hr Mv none 0 0 [] In.nil_ none 0 0 none 0 0 [] In.nil_ none 0 0 [] In.nil_ (by omega) (by omega) (by omega) (by omega) (.inl rfl)
 have rW:=hide λW A1 c1 (hc:In W A1 2 c1 bI) A3 c3 (hr:In W A3 3 c3 cB) A c (hn:In W A 1 c [kA]) (hw:Words W) Ar cr (hrow:In W Ar 2 cr [iV 1,iV 2])=>Cv W rz A 1 c hn none 0 0 In.nil_ none 0 0 In.nil_ hw Mv A1 2 c1 bI hc none 0 0 A3 3 c3 cB hr Mv none 0 0 [] In.nil_ none 0 0 none 0 0 [] In.nil_ none 0 0 [] In.nil_ (by omega) (by omega) (by omega) (by omega) Ar 2 cr [iV 1,iV 2] hrow CR (by rw[zq,cntF,if_pos (dP.2 rfl)];decide) rfl
 have WN:=hide λW A1 c1 (hc:In W A1 2 c1 bI) A3 c3 (hr:In W A3 3 c3 cB) A c (hn:In W A 1 c [kA]) A' c' (hn':In W A' 1 c' [kB]) (hw:Words W)=>wS W Ex A 1 c hn A' 1 c' hn' none 0 0 In.nil_ hw Mv A1 2 c1 bI hc none 0 0 A3 3 c3 cB hr Mv A1 2 c1 bI hc none 0 0 A3 3 c3 cB hr none 0 0 [] In.nil_ (by omega) (by omega) (by omega) (by omega) Ey rfl rfl
 simp only[ax,zq,Pb,Jv]at Vh rW WN
 simp only[rz,Ex,Mv,Ver.cells]at Vh rW WN
 go_enter Tryz.func28,Tryz.ntmps28
 have HW:=hide hw
 clear hw
 go_wp2_with fail
 obtain ⟨W2,hW2⟩: ∃W,W=(w.alloc (.cells #[.string ⟨#[97]⟩,.int .i64 2,.bool false,.string ⟨#[98]⟩,.int .i64 2,.bool false] 82)).alloc (.cells #[.int .i64 1,.int .i64 2] 3):=⟨_,rfl⟩
 have hb2:Below w.heap.size w W2:=by rw[hW2];exact below_alloc2
 have hc2:In W2 (some ⟨w.heap.size,0,none⟩) 2 2 bI:=by rw[hW2];exact (I7 w).below af
 have hi2:In W2 (some ⟨w.heap.size+1,0,none⟩) 2 2 ([1,2]:List Int):=by
  rw[hW2]
  have h:=zo (w.alloc (.cells #[.string ⟨#[97]⟩,.int .i64 2,.bool false,.string ⟨#[98]⟩,.int .i64 2,.bool false] 82)) 1 2 (jL (by omega) (by omega)) (jL (by omega) (by omega))
  rwa [World.size_alloc]at h
 rw[<-hW2]
 clear hW2
 have HW:=hide (HW.out.below hb2)
 have qA:=hide hb2
 clear hb2
 have HC:=hide hc2
 clear hc2
 go_wp2_with fail
 refine (kV _ _ 2 2 ([1,2]:List Int) hi2 (by omega)).mono ?_
 rintro e w2 ⟨⟨A1,d1,rfl,h1⟩,hb2⟩
 have HW:=hide (HW.out.below hb2)
 have HC:=hide (HC.out.below hb2)
 have oO:=hide (aa qA.out hb2)
 clear hb2
 clear hi2
 have H1:=hide h1
 clear h1
 go_wp2_with fail
 obtain ⟨V2,hV2⟩: ∃W,W=w2.alloc (.cells #[.int .i64 1,.int .i64 3] 3):=⟨_,rfl⟩
 have Mg:Below w2.heap.size w2 V2:=by rw[hV2];exact af
 have Ut:In V2 (some ⟨w2.heap.size,0,none⟩) 2 2 ([1,3]:List Int):=by rw[hV2];exact zo _ _ _ (jL (by omega) (by omega)) (jL (by omega) (by omega))
 rw[<-hV2]
 clear hV2
 have HW:=hide (HW.out.below Mg)
 have HC:=hide (HC.out.below Mg)
 have H1:=hide (H1.out.below Mg)
 have jH:=hide (aa oO.out Mg)
 clear Mg
 refine (kV _ _ 2 2 ([1,3]:List Int) Ut (by omega)).mono ?_
 rintro e w5 ⟨⟨A2,d2,rfl,h2⟩,hb5⟩
 have HW:=hide (HW.out.below hb5)
 have HC:=hide (HC.out.below hb5)
 have H1:=hide (H1.out.below hb5)
 have uw:=hide (aa jH.out hb5)
 clear hb5
 clear Ut
 have H2:=hide h2
 clear h2
 go_wp2_with fail
 obtain ⟨V3,VK⟩: ∃W,W=w5.alloc (.cells #[.int .i64 2,.int .i64 5] 3):=⟨_,rfl⟩
 have Jl:Below w5.heap.size w5 V3:=by rw[VK];exact af
 have Uu:In V3 (some ⟨w5.heap.size,0,none⟩) 2 2 ([2,5]:List Int):=by rw[VK];exact zo _ _ _ (jL (by omega) (by omega)) (jL (by omega) (by omega))
 rw[<-VK]
 clear VK
 have HW:=hide (HW.out.below Jl)
 have HC:=hide (HC.out.below Jl)
 have H1:=hide (H1.out.below Jl)
 have H2:=hide (H2.out.below Jl)
 have kv:=hide (aa uw.out Jl)
 clear Jl
 refine (kV _ _ 2 2 ([2,5]:List Int) Uu (by omega)).mono ?_
 rintro e w8 ⟨⟨A3,d3,rfl,h3⟩,uR⟩
 have HW:=hide (HW.out.below uR)
 have HC:=hide (HC.out.below uR)
 have H1:=hide (H1.out.below uR)
 have H2:=hide (H2.out.below uR)
 have uy:=hide (aa kv.out uR)
 clear uR
 clear Uu
 have H3:=hide h3
 clear h3
 have HB3:=hide uy.out
 go_wp2_with fail
 obtain ⟨tJ,qQ⟩: ∃W,W=w8.alloc (.cells #[.slice A1 2 d1,.int .i64 1,.slice A2 2 d2,.int .i64 1,.slice A3 2 d3,.int .i64 1] 61):=⟨_,rfl⟩
 obtain ⟨g4,hg4⟩: ∃q,q=w8.heap.size:=⟨_,rfl⟩
 have KE:Hid (gZ tJ g4 61 [.slice A1 2 d1,.int .i64 1,.slice A2 2 d2,.int .i64 1,.slice A3 2 d3,.int .i64 1]):=hide (by rw[qQ,hg4];exact gZ.made _ _ _)
 have TE:Hid (tJ.heap.size=g4+1):=hide (by rw[qQ,hg4];exact World.size_alloc _ _)
 have Cc:Hid (Below w8.heap.size w8 tJ):=hide (by rw[qQ];exact af)
 have Wm:Hid (w.heap.size<=g4):=hide (by rw[hg4];exact HB3.out.size)
 rw[<-qQ,<-hg4]
 have Wi:=hide hg4
 clear qQ hg4
 have qg:=hide (aa HB3.out Cc.out)
 obtain ⟨tK,qR⟩: ∃W,W=tJ.alloc (.cells #[.string ⟨#[]⟩,.slice (some ⟨w.heap.size,0,none⟩) 2 2,.slice none 0 0,.slice (some ⟨g4,0,none⟩) 3 3] 32):=⟨_,rfl⟩
 obtain ⟨g5,hg5⟩: ∃q,q=tJ.heap.size:=⟨_,rfl⟩
 have KR:Hid (gZ tK g5 32 [.string ⟨#[]⟩,.slice (some ⟨w.heap.size,0,none⟩) 2 2,.slice none 0 0,.slice (some ⟨g4,0,none⟩) 3 3]):=hide (by rw[qR,hg5];exact gZ.made _ _ _)
 have TF:Hid (tK.heap.size=g5+1):=hide (by rw[qR,hg5];exact World.size_alloc _ _)
 have DD:Hid (Below tJ.heap.size tJ tK):=hide (by rw[qR];exact af)
 have Wn:Hid (w.heap.size<=g5):=hide (by rw[hg5];exact qg.out.size)
 have NR:Hid (¬g4=g5):=hide (by have h:=KE.out.lt;omega)
 have UD:g5=g4+1:=by rw[hg5];exact TE.out
 rw[<-qR,<-UD]
 clear UD
 have Wj:=hide hg5
 clear qR hg5
 have KE:=hide (KE.out.below DD.out)
 have Hm:=hide (aa qg.out DD.out)
 obtain ⟨yB,qU⟩: ∃W,W=tK.alloc (.cells #[.string ⟨#[97]⟩] 9):=⟨_,rfl⟩
 obtain ⟨g6,Np⟩: ∃q,q=tK.heap.size:=⟨_,rfl⟩
 have KN:Hid (gZ yB g6 9 [.string ⟨#[97]⟩]):=hide (by rw[qU,Np];exact gZ.made _ _ _)
 have Xk:Hid (yB.heap.size=g6+1):=hide (by rw[qU,Np];exact World.size_alloc _ _)
 have NP:Hid (Below tK.heap.size tK yB):=hide (by rw[qU];exact af)
 have Y2:Hid (w.heap.size<=g6):=hide (by rw[Np];exact Hm.out.size)
 have Vt:Hid (¬g4=g6):=hide (by have h:=KE.out.lt;omega)
 have Vv:Hid (¬g5=g6):=hide (by have h:=KR.out.lt;omega)
 have UE:g6=g5+1:=by rw[Np];exact TF.out
 rw[<-qU,<-UE]
 clear UE
 have YT:=hide Np
 clear qU Np
 have KE:=hide (KE.out.below NP.out)
 have KR:=hide (KR.out.below NP.out)
 have PQ:=hide (aa Hm.out NP.out)
 obtain ⟨NZ,Eg⟩: ∃W,W=yB.alloc (.cells #[.string ⟨#[99]⟩,.string ⟨#[]⟩,.int .i64 0,.slice (some ⟨g6,0,none⟩) 1 1,.string ⟨#[]⟩,.slice none 0 0,.int .i64 0,.int .i64 0,.slice none 0 0,.int .i64 0,.int .i64 0,.int .i64 0,.int .i64 0,.int .i64 1] 27):=⟨_,rfl⟩
 obtain ⟨g7,R8⟩: ∃q,q=yB.heap.size:=⟨_,rfl⟩
 have KC:Hid (gZ NZ g7 27 [.string ⟨#[99]⟩,.string ⟨#[]⟩,.int .i64 0,.slice (some ⟨g6,0,none⟩) 1 1,.string ⟨#[]⟩,.slice none 0 0,.int .i64 0,.int .i64 0,.slice none 0 0,.int .i64 0,.int .i64 0,.int .i64 0,.int .i64 0,.int .i64 1]):=hide (by rw[Eg,R8];exact gZ.made _ _ _)
 have ZL:Hid (NZ.heap.size=g7+1):=hide (by rw[Eg,R8];exact World.size_alloc _ _)
 have KL:Hid (Below yB.heap.size yB NZ):=hide (by rw[Eg];exact af)
 have Y3:Hid (w.heap.size<=g7):=hide (by rw[R8];exact PQ.out.size)
 have Vu:Hid (¬g4=g7):=hide (by have h:=KE.out.lt;omega)
 have Vw:Hid (¬g5=g7):=hide (by have h:=KR.out.lt;omega)
 have VA:Hid (¬g6=g7):=hide (by have h:=KN.out.lt;omega)
 have UF:g7=g6+1:=by rw[R8];exact Xk.out
 rw[<-Eg,<-UF]
 clear UF
 have YU:=hide R8
 clear Eg R8
 have KE:=hide (KE.out.below KL.out)
 have KR:=hide (KR.out.below KL.out)
 have KN:=hide (KN.out.below KL.out)
 have Tm:=hide (aa PQ.out KL.out)
 have Jk:=aa (aa (aa Cc.out DD.out) NP.out) KL.out
 have HE:=hide (Ja _ g4 A1 A2 A3 d1 d2 d3 KE.out (H1.out.below Jk) (H2.out.below Jk) (H3.out.below Jk))
 have HN:=hide (C9 _ g6 ⟨#[97]⟩ Qd KN.out)
 have Yd:=hide (HC.out.below Jk)
 have Vi:=hide (HW.out.below Jk)
 clear Jk
 obtain ⟨W4,rfl⟩: ∃W,W=NZ:=⟨_,rfl⟩
 have BU:=hide Tm.out
 obtain ⟨yz,g0,g1,g2,g3,g4,g5,g6,g7,g8,g9,g10,g11,g12,g13⟩:=KC.out.ats14
 obtain ⟨vG,r0,r1,r2,r3⟩:=KR.out.ats4
 go_wp2_with fail
 refine (Vh.out _ _ _ (Yd.out.below (Below.refl _ _)) _ _ (HE.out.below (Below.refl _ _)) _ _ (HN.out.below (Below.refl _ _)) (Vi.out.below (Below.refl _ _))).mono ?_
 rintro e X8 ⟨⟨v1,rfl,ho1⟩,Au⟩
 clear yz g0 g1 g2 g3 g4 g5 g6 g7 g8 g9 g10 g11 g12 g13 vG r0 r1 r2 r3
 have KR:=hide (KR.out.below Au)
 have KC:=hide (KC.out.below Au)
 have yx:=hide Au
 clear Au
 obtain ⟨Av,cv,rfl⟩:=ho1.form
 clear ho1
 obtain ⟨W5,rfl⟩: ∃W,W=X8:=⟨_,rfl⟩
 go_upto_region 4 with (fail)
 have RZ:=hide (Vi.out.below yx.out)
 have RO:=hide (Yd.out.below yx.out)
 have RS:=hide (HE.out.below yx.out)
 have Vf:=hide (HN.out.below yx.out)
 go_cut [5,6] (λp e wx=> ∃(gx:Nat) (A7:Option Addr) (c7:Nat) (A8:Option Addr) (c8:Nat),p=.pointer (some ⟨gx,0,none⟩)/\e=.int .i64 0/\gZ wx gx 105 [.string ⟨#[99]⟩,.slice A7 1 c7,.slice A8 1 c8]/\In wx A7 1 c7 [iV 1]/\Below W5.heap.size W5 wx)
 case first=>
  have q0:Hid True:=hide trivial
  refine wp_region_held_drew (S:=λV=>V.cell? ⟨g7,0,none⟩=some (.string ⟨#[99]⟩)/\V.cell? ⟨g7,1,none⟩=some (.string ⟨#[]⟩)/\V.cell? ⟨g7,2,none⟩=some (.int .i64 0)/\V.cell? ⟨g7,3,none⟩=some (.slice (some ⟨g6,0,none⟩) 1 1)/\V.cell? ⟨g7,4,none⟩=some (.string ⟨#[]⟩)/\V.cell? ⟨g7,5,none⟩=some (.slice none 0 0)/\V.cell? ⟨g7,6,none⟩=some (.int .i64 0)/\V.cell? ⟨g7,7,none⟩=some (.int .i64 0)/\V.cell? ⟨g7,8,none⟩=some (.slice none 0 0)/\V.cell? ⟨g7,9,none⟩=some (.int .i64 0)/\V.cell? ⟨g7,10,none⟩=some (.int .i64 0)/\V.cell? ⟨g7,11,none⟩=some (.int .i64 0)/\V.cell? ⟨g7,12,none⟩=some (.int .i64 0)/\V.cell? ⟨g7,13,none⟩=some (.int .i64 1)/\V.cell? ⟨g5,0,none⟩=some (.string ⟨#[]⟩)/\V.cell? ⟨g5,1,none⟩=some (.slice (some ⟨w.heap.size,0,none⟩) 2 2)/\V.cell? ⟨g5,2,none⟩=some (.slice none 0 0)/\V.cell? ⟨g5,3,none⟩=some (.slice (some ⟨g4,0,none⟩) 3 3)) (by kernel_rfl) (by exact ⟨(KC.out.below ((Below.refl _ _).drew)).at 0 rfl,(KC.out.below ((Below.refl _ _).drew)).at 1 rfl,(KC.out.below ((Below.refl _ _).drew)).at 2 rfl,(KC.out.below ((Below.refl _ _).drew)).at 3 rfl,(KC.out.below ((Below.refl _ _).drew)).at 4 rfl,(KC.out.below ((Below.refl _ _).drew)).at 5 rfl,(KC.out.below ((Below.refl _ _).drew)).at 6 rfl,(KC.out.below ((Below.refl _ _).drew)).at 7 rfl,(KC.out.below ((Below.refl _ _).drew)).at 8 rfl,(KC.out.below ((Below.refl _ _).drew)).at 9 rfl,(KC.out.below ((Below.refl _ _).drew)).at 10 rfl,(KC.out.below ((Below.refl _ _).drew)).at 11 rfl,(KC.out.below ((Below.refl _ _).drew)).at 12 rfl,(KC.out.below ((Below.refl _ _).drew)).at 13 rfl,(KR.out.below ((Below.refl _ _).drew)).at 0 rfl,(KR.out.below ((Below.refl _ _).drew)).at 1 rfl,(KR.out.below ((Below.refl _ _).drew)).at 2 rfl,(KR.out.below ((Below.refl _ _).drew)).at 3 rfl⟩) (λhHeld=>?_)
  obtain ⟨WD,VM⟩: ∃q,q=W5.drew:=⟨_,rfl⟩
  have iH:Hid (Below W5.heap.size W5 WD):=hide (by rw[VM];exact (Below.refl _ _).drew)
  rw[<-VM]at hHeld
  rw[<-VM]
  clear VM
  refine wpAnyH_take (i:=0) (v:=?_) rfl (by kernel_rfl) (by kernel_rfl) (by kernel_rfl) (λ_ _ _ h=>h) (Or.inl ⟨by rfl,?_⟩) hHeld ?_
  rotate_left
  ·intro w hSw
   try dsimp only at hSw
   go_simp
   try with_reducible rfl
  (try simp only[Act.put,bL])
  refine wpAnyH_take (i:=1) (v:=?_) rfl (by kernel_rfl) (by kernel_rfl) (by kernel_rfl) (λ_ _ _ h=>h) (Or.inl ⟨by rfl,?_⟩) hHeld ?_
  rotate_left
  ·intro w hSw
   try dsimp only at hSw
   go_simp
   try with_reducible rfl
  (try simp only[Act.put,bL])
  refine wpAnyH_take (i:=2) (v:=?_) rfl (by kernel_rfl) (by kernel_rfl) (by kernel_rfl) (λ_ _ _ h=>h) (Or.inl ⟨by rfl,?_⟩) hHeld ?_
  rotate_left
  ·intro w hSw
   try dsimp only at hSw
   go_simp
   try with_reducible rfl
  (try simp only[Act.put,bL])
  refine wpAnyH_ready (rs:=[3,9]) (by kernel_rfl) (by simp) ?_
  refine AllReadyH.cons rfl (λK hK=>?_) (AllReadyH.cons rfl (λK hK=>?_) AllReadyH.nil)
  ·go_simp
   refine hK.out _ _ ?_ (λaB=>?_)
   ·exact ⟨(KC.out.below (aa iH.out af)).at 0 rfl,(KC.out.below (aa iH.out af)).at 1 rfl,(KC.out.below (aa iH.out af)).at 2 rfl,(KC.out.below (aa iH.out af)).at 3 rfl,(KC.out.below (aa iH.out af)).at 4 rfl,(KC.out.below (aa iH.out af)).at 5 rfl,(KC.out.below (aa iH.out af)).at 6 rfl,(KC.out.below (aa iH.out af)).at 7 rfl,(KC.out.below (aa iH.out af)).at 8 rfl,(KC.out.below (aa iH.out af)).at 9 rfl,(KC.out.below (aa iH.out af)).at 10 rfl,(KC.out.below (aa iH.out af)).at 11 rfl,(KC.out.below (aa iH.out af)).at 12 rfl,(KC.out.below (aa iH.out af)).at 13 rfl,(KR.out.below (aa iH.out af)).at 0 rfl,(KR.out.below (aa iH.out af)).at 1 rfl,(KR.out.below (aa iH.out af)).at 2 rfl,(KR.out.below (aa iH.out af)).at 3 rfl⟩
   clear hK K hHeld
   have hHeld:=aB
   clear aB
   (try simp only[Act.put,bL])
   obtain ⟨WI,Cz⟩: ∃q,q=WD.alloc (.cells #[.int .i64 1,.int .i64 2] 3):=⟨_,rfl⟩
   obtain ⟨gi,hgi⟩: ∃q,q=WD.heap.size:=⟨_,rfl⟩
   have KI:Hid (gZ WI gi 3 [.int .i64 1,.int .i64 2]):=hide (by rw[Cz,hgi];exact gZ.made _ _ _)
   have mF:Hid (Below W5.heap.size W5 WI):=hide (by rw[Cz];exact aa iH.out af)
   have Ti:Hid (Below WD.heap.size WD WI):=hide (by rw[Cz];exact af)
   have Wo:Hid (W5.heap.size<=gi):=hide (by rw[hgi];exact iH.out.size)
   rw[<-Cz]at hHeld
   rw[<-Cz,<-hgi]
   clear Cz hgi
   have Nh:Hid (In WI (some ⟨gi,0,none⟩) 2 2 ([1,2]:List Int)):=hide (Bq _ _ 1 2 (jL (by omega) (by omega)) (jL (by omega) (by omega)) KI.out)
   refine wpAnyH_ready (rs:=[4,9]) (by kernel_rfl) (by simp) ?_
   refine AllReadyH.cons rfl (λK hK=>?_) (AllReadyH.cons rfl (λK hK=>?_) AllReadyH.nil)
   ·go_simp
    go_at_call 59
    refine (kV _ _ 2 2 ([1,2]:List Int) (by exact Nh.out) (by omega)).mono ?_
    rintro e Sj ⟨⟨A6,d6,rfl,h6⟩,hb6⟩
    have aR:=hide (aa mF.out hb6)
    have Hl:=hide hb6
    have Hf:=hide h6
    clear h6 hb6
    go_wp2_with fail
    refine hK.out _ _ ?_ (λaB=>?_)
    ·exact ⟨(KC.out.below (aR.out)).at 0 rfl,(KC.out.below (aR.out)).at 1 rfl,(KC.out.below (aR.out)).at 2 rfl,(KC.out.below (aR.out)).at 3 rfl,(KC.out.below (aR.out)).at 4 rfl,(KC.out.below (aR.out)).at 5 rfl,(KC.out.below (aR.out)).at 6 rfl,(KC.out.below (aR.out)).at 7 rfl,(KC.out.below (aR.out)).at 8 rfl,(KC.out.below (aR.out)).at 9 rfl,(KC.out.below (aR.out)).at 10 rfl,(KC.out.below (aR.out)).at 11 rfl,(KC.out.below (aR.out)).at 12 rfl,(KC.out.below (aR.out)).at 13 rfl,(KR.out.below (aR.out)).at 0 rfl,(KR.out.below (aR.out)).at 1 rfl,(KR.out.below (aR.out)).at 2 rfl,(KR.out.below (aR.out)).at 3 rfl⟩
    clear hK K hHeld
    have hHeld:=aB
    clear aB
    (try simp only[Act.put,bL])
    refine wpAnyH_ready (rs:=[5,9]) (by kernel_rfl) (by simp) ?_
    refine AllReadyH.cons rfl (λK hK=>?_) (AllReadyH.cons rfl (λK hK=>?_) AllReadyH.nil)
    ·go_simp
     go_at_call 60
     refine (rW.out _ _ _ (by exact RO.out.below (aR.out)) _ _ (by exact RS.out.below (aR.out)) _ _ (by exact Vf.out.below (aR.out)) (by exact RZ.out.below (aR.out)) _ _ (by exact Hf.out)).mono ?_
     rintro e w7 ⟨⟨v7,v8,rfl,Aw,Mk⟩,dC⟩
     obtain ⟨A7,c7,rfl⟩:=Aw.form
     obtain ⟨A8,c8,rfl⟩:=Mk.form
     have NK:=hide Aw
     have aL:=hide (aa aR.out dC)
     have IK:=hide dC
     clear Aw Mk dC
     go_wp2_with fail
     refine hK.out _ _ ?_ (λaB=>?_)
     ·exact ⟨(KC.out.below (aL.out)).at 0 rfl,(KC.out.below (aL.out)).at 1 rfl,(KC.out.below (aL.out)).at 2 rfl,(KC.out.below (aL.out)).at 3 rfl,(KC.out.below (aL.out)).at 4 rfl,(KC.out.below (aL.out)).at 5 rfl,(KC.out.below (aL.out)).at 6 rfl,(KC.out.below (aL.out)).at 7 rfl,(KC.out.below (aL.out)).at 8 rfl,(KC.out.below (aL.out)).at 9 rfl,(KC.out.below (aL.out)).at 10 rfl,(KC.out.below (aL.out)).at 11 rfl,(KC.out.below (aL.out)).at 12 rfl,(KC.out.below (aL.out)).at 13 rfl,(KR.out.below (aL.out)).at 0 rfl,(KR.out.below (aL.out)).at 1 rfl,(KR.out.below (aL.out)).at 2 rfl,(KR.out.below (aL.out)).at 3 rfl⟩
     clear hK K hHeld
     have hHeld:=aB
     clear aB
     (try simp only[Act.put,bL])
     refine wpAnyH_take (i:=6) (v:=?_) rfl (by kernel_rfl) (by kernel_rfl) (by kernel_rfl) (λ_ _ _ h=>h) (Or.inl ⟨by rfl,?_⟩) hHeld ?_
     rotate_left
     ·intro w hSw
      try dsimp only at hSw
      go_simp
      try with_reducible rfl
     (try simp only[Act.put,bL])
     refine wpAnyH_take (i:=7) (v:=?_) rfl (by kernel_rfl) (by kernel_rfl) (by kernel_rfl) (λ_ _ _ h=>h) (Or.inl ⟨by rfl,?_⟩) hHeld ?_
     rotate_left
     ·intro w hSw
      try dsimp only at hSw
      go_simp
      try with_reducible rfl
     (try simp only[Act.put,bL])
     refine wpAnyH_take (i:=8) (v:=?_) rfl (by kernel_rfl) (by kernel_rfl) (by kernel_rfl) (λ_ _ _ h=>h) (Or.inl ⟨by rfl,?_⟩) hHeld ?_
     rotate_left
     ·intro w hSw
      try dsimp only at hSw
      go_simp
      try with_reducible rfl
     (try simp only[Act.put,bL])
     refine wpAnyH_ready (rs:=[9]) (by kernel_rfl) (by simp) ?_
     refine AllReadyH.cons rfl (λK hK=>?_) AllReadyH.nil
     go_simp
     refine hK.out _ _ ?_ (λaB=>?_)
     ·exact ⟨(KC.out.below (aa aL.out af)).at 0 rfl,(KC.out.below (aa aL.out af)).at 1 rfl,(KC.out.below (aa aL.out af)).at 2 rfl,(KC.out.below (aa aL.out af)).at 3 rfl,(KC.out.below (aa aL.out af)).at 4 rfl,(KC.out.below (aa aL.out af)).at 5 rfl,(KC.out.below (aa aL.out af)).at 6 rfl,(KC.out.below (aa aL.out af)).at 7 rfl,(KC.out.below (aa aL.out af)).at 8 rfl,(KC.out.below (aa aL.out af)).at 9 rfl,(KC.out.below (aa aL.out af)).at 10 rfl,(KC.out.below (aa aL.out af)).at 11 rfl,(KC.out.below (aa aL.out af)).at 12 rfl,(KC.out.below (aa aL.out af)).at 13 rfl,(KR.out.below (aa aL.out af)).at 0 rfl,(KR.out.below (aa aL.out af)).at 1 rfl,(KR.out.below (aa aL.out af)).at 2 rfl,(KR.out.below (aa aL.out af)).at 3 rfl⟩
     clear hK K hHeld
     have hHeld:=aB
     clear aB
     (try simp only[Act.put,bL])
     obtain ⟨WX,vV⟩: ∃q,q=w7.alloc (.cells #[.string ⟨#[]⟩,.slice none 0 0,.slice none 0 0] 105):=⟨_,rfl⟩
     obtain ⟨gx,hgx⟩: ∃q,q=w7.heap.size:=⟨_,rfl⟩
     have KX:Hid (gZ WX gx 105 [.string ⟨#[]⟩,.slice none 0 0,.slice none 0 0]):=hide (by rw[vV,hgx];exact gZ.made _ _ _)
     have fV:Hid (Below W5.heap.size W5 WX):=hide (by rw[vV];exact aa aL.out af)
     have IJ:Hid (Below w7.heap.size w7 WX):=hide (by rw[vV];exact af)
     have mH:Hid (W5.heap.size<=gx):=hide (by rw[hgx];exact aL.out.size)
     rw[<-vV]at hHeld
     rw[<-vV,<-hgx]
     clear vV hgx
     have NK:=hide (NK.out.below IJ.out)
     have x0:=KX.out.at 0 rfl
     have x1:=KX.out.at 1 rfl
     have x2:=KX.out.at 2 rfl
     have y0:=KX.out.fz 0
     have y1:=KX.out.fz 1
     have y2:=KX.out.fz 2
     have n5:¬g5=gx:=λe=>by have h1:=KR.out.lt;have h2:=mH.out;omega
     have n7:¬g7=gx:=λe=>by have h1:=KC.out.lt;have h2:=mH.out;omega
     refine wpAnyH_ready (rs:=[10]) (by kernel_rfl) (by simp) ?_
     refine AllReadyH.cons rfl (λK hK=>?_) AllReadyH.nil
     go_simp
     refine hK.out _ _ ?_ (λaB=>?_)
     ·exact ⟨ae (ae (ae ((KC.out.below fV.out).at 0 rfl) (.inl n7)) (.inl n7)) (.inl n7),ae (ae (ae ((KC.out.below fV.out).at 1 rfl) (.inl n7)) (.inl n7)) (.inl n7),ae (ae (ae ((KC.out.below fV.out).at 2 rfl) (.inl n7)) (.inl n7)) (.inl n7),ae (ae (ae ((KC.out.below fV.out).at 3 rfl) (.inl n7)) (.inl n7)) (.inl n7),ae (ae (ae ((KC.out.below fV.out).at 4 rfl) (.inl n7)) (.inl n7)) (.inl n7),ae (ae (ae ((KC.out.below fV.out).at 5 rfl) (.inl n7)) (.inl n7)) (.inl n7),ae (ae (ae ((KC.out.below fV.out).at 6 rfl) (.inl n7)) (.inl n7)) (.inl n7),ae (ae (ae ((KC.out.below fV.out).at 7 rfl) (.inl n7)) (.inl n7)) (.inl n7),ae (ae (ae ((KC.out.below fV.out).at 8 rfl) (.inl n7)) (.inl n7)) (.inl n7),ae (ae (ae ((KC.out.below fV.out).at 9 rfl) (.inl n7)) (.inl n7)) (.inl n7),ae (ae (ae ((KC.out.below fV.out).at 10 rfl) (.inl n7)) (.inl n7)) (.inl n7),ae (ae (ae ((KC.out.below fV.out).at 11 rfl) (.inl n7)) (.inl n7)) (.inl n7),ae (ae (ae ((KC.out.below fV.out).at 12 rfl) (.inl n7)) (.inl n7)) (.inl n7),ae (ae (ae ((KC.out.below fV.out).at 13 rfl) (.inl n7)) (.inl n7)) (.inl n7),ae (ae (ae ((KR.out.below fV.out).at 0 rfl) (.inl n5)) (.inl n5)) (.inl n5),ae (ae (ae ((KR.out.below fV.out).at 1 rfl) (.inl n5)) (.inl n5)) (.inl n5),ae (ae (ae ((KR.out.below fV.out).at 2 rfl) (.inl n5)) (.inl n5)) (.inl n5),ae (ae (ae ((KR.out.below fV.out).at 3 rfl) (.inl n5)) (.inl n5)) (.inl n5)⟩
     clear hK K hHeld
     have hHeld:=aB
     clear aB
     (try simp only[Act.put,bL])
     refine wpAnyH_take (i:=11) (v:=?_) rfl (by kernel_rfl) (by kernel_rfl) (by kernel_rfl) (λ_ _ _ h=>h) (Or.inl ⟨by rfl,?_⟩) hHeld ?_
     rotate_left
     ·intro w hSw
      try dsimp only at hSw
      go_simp
      try with_reducible rfl
     (try simp only[Act.put,bL])
     refine wpAnyH_done (by kernel_rfl) ?_ _
     have QC:=hide ((((NK.out.off KX.out.ty (.inr λ_ h=>h) (by decide) (by decide) 0 (.string ⟨#[99]⟩)).off (KX.out.ty.set _ _ _) (.inr λ_ h=>h) (by decide) (by decide) 1 (.slice A7 1 c7)).off ((KX.out.ty.set _ _ _).set _ _ _) (.inr λ_ h=>h) (by decide) (by decide) 2 (.slice A8 1 c8)))
     go_wp2_with fail
     go_meet
     case rel=>exact ⟨gx,A7,c7,A8,c8,rfl,rfl,KX.out.set3 rfl,gD QC.out rfl,gM (gM (gM fV.out mH.out _ _) mH.out _ _) mH.out _ _⟩
    ·go_simp
     refine hK.out _ _ ?_ (λaB=>?_)
     ·exact ⟨(KC.out.below (aa aR.out af)).at 0 rfl,(KC.out.below (aa aR.out af)).at 1 rfl,(KC.out.below (aa aR.out af)).at 2 rfl,(KC.out.below (aa aR.out af)).at 3 rfl,(KC.out.below (aa aR.out af)).at 4 rfl,(KC.out.below (aa aR.out af)).at 5 rfl,(KC.out.below (aa aR.out af)).at 6 rfl,(KC.out.below (aa aR.out af)).at 7 rfl,(KC.out.below (aa aR.out af)).at 8 rfl,(KC.out.below (aa aR.out af)).at 9 rfl,(KC.out.below (aa aR.out af)).at 10 rfl,(KC.out.below (aa aR.out af)).at 11 rfl,(KC.out.below (aa aR.out af)).at 12 rfl,(KC.out.below (aa aR.out af)).at 13 rfl,(KR.out.below (aa aR.out af)).at 0 rfl,(KR.out.below (aa aR.out af)).at 1 rfl,(KR.out.below (aa aR.out af)).at 2 rfl,(KR.out.below (aa aR.out af)).at 3 rfl⟩
     clear hK K hHeld
     have hHeld:=aB
     clear aB
     (try simp only[Act.put,bL])
     obtain ⟨WX,vV⟩: ∃q,q=Sj.alloc (.cells #[.string ⟨#[]⟩,.slice none 0 0,.slice none 0 0] 105):=⟨_,rfl⟩
     obtain ⟨gx,hgx⟩: ∃q,q=Sj.heap.size:=⟨_,rfl⟩
     have KX:Hid (gZ WX gx 105 [.string ⟨#[]⟩,.slice none 0 0,.slice none 0 0]):=hide (by rw[vV,hgx];exact gZ.made _ _ _)
     have fV:Hid (Below W5.heap.size W5 WX):=hide (by rw[vV];exact aa aR.out af)
     have IJ:Hid (Below Sj.heap.size Sj WX):=hide (by rw[vV];exact af)
     have mH:Hid (W5.heap.size<=gx):=hide (by rw[hgx];exact aR.out.size)
     rw[<-vV]at hHeld
     rw[<-vV,<-hgx]
     clear vV hgx
     have Hf:=hide (Hf.out.below IJ.out)
     refine wpAnyH_ready (rs:=[5]) (by kernel_rfl) (by simp) ?_
     refine AllReadyH.cons rfl (λK hK=>?_) AllReadyH.nil
     go_simp
     go_at_call 60
     refine (rW.out _ _ _ (by exact RO.out.below (fV.out)) _ _ (by exact RS.out.below (fV.out)) _ _ (by exact Vf.out.below (fV.out)) (by exact RZ.out.below (fV.out)) _ _ (by exact Hf.out)).mono ?_
     rintro e w7 ⟨⟨v7,v8,rfl,Aw,Mk⟩,dC⟩
     obtain ⟨A7,c7,rfl⟩:=Aw.form
     obtain ⟨A8,c8,rfl⟩:=Mk.form
     have NK:=hide Aw
     have aL:=hide (aa fV.out dC)
     have IK:=hide dC
     clear Aw Mk dC
     go_wp2_with fail
     refine hK.out _ _ ?_ (λaB=>?_)
     ·exact ⟨(KC.out.below (aL.out)).at 0 rfl,(KC.out.below (aL.out)).at 1 rfl,(KC.out.below (aL.out)).at 2 rfl,(KC.out.below (aL.out)).at 3 rfl,(KC.out.below (aL.out)).at 4 rfl,(KC.out.below (aL.out)).at 5 rfl,(KC.out.below (aL.out)).at 6 rfl,(KC.out.below (aL.out)).at 7 rfl,(KC.out.below (aL.out)).at 8 rfl,(KC.out.below (aL.out)).at 9 rfl,(KC.out.below (aL.out)).at 10 rfl,(KC.out.below (aL.out)).at 11 rfl,(KC.out.below (aL.out)).at 12 rfl,(KC.out.below (aL.out)).at 13 rfl,(KR.out.below (aL.out)).at 0 rfl,(KR.out.below (aL.out)).at 1 rfl,(KR.out.below (aL.out)).at 2 rfl,(KR.out.below (aL.out)).at 3 rfl⟩
     clear hK K hHeld
     have hHeld:=aB
     clear aB
     (try simp only[Act.put,bL])
     have KX:=hide (KX.out.below IK.out)
     refine wpAnyH_take (i:=6) (v:=?_) rfl (by kernel_rfl) (by kernel_rfl) (by kernel_rfl) (λ_ _ _ h=>h) (Or.inl ⟨by rfl,?_⟩) hHeld ?_
     rotate_left
     ·intro w hSw
      try dsimp only at hSw
      go_simp
      try with_reducible rfl
     (try simp only[Act.put,bL])
     refine wpAnyH_take (i:=7) (v:=?_) rfl (by kernel_rfl) (by kernel_rfl) (by kernel_rfl) (λ_ _ _ h=>h) (Or.inl ⟨by rfl,?_⟩) hHeld ?_
     rotate_left
     ·intro w hSw
      try dsimp only at hSw
      go_simp
      try with_reducible rfl
     (try simp only[Act.put,bL])
     refine wpAnyH_take (i:=8) (v:=?_) rfl (by kernel_rfl) (by kernel_rfl) (by kernel_rfl) (λ_ _ _ h=>h) (Or.inl ⟨by rfl,?_⟩) hHeld ?_
     rotate_left
     ·intro w hSw
      try dsimp only at hSw
      go_simp
      try with_reducible rfl
     (try simp only[Act.put,bL])
     have x0:=KX.out.at 0 rfl
     have x1:=KX.out.at 1 rfl
     have x2:=KX.out.at 2 rfl
     have y0:=KX.out.fz 0
     have y1:=KX.out.fz 1
     have y2:=KX.out.fz 2
     have n5:¬g5=gx:=λe=>by have h1:=KR.out.lt;have h2:=mH.out;omega
     have n7:¬g7=gx:=λe=>by have h1:=KC.out.lt;have h2:=mH.out;omega
     refine wpAnyH_ready (rs:=[10]) (by kernel_rfl) (by simp) ?_
     refine AllReadyH.cons rfl (λK hK=>?_) AllReadyH.nil
     go_simp
     refine hK.out _ _ ?_ (λaB=>?_)
     ·exact ⟨ae (ae (ae ((KC.out.below aL.out).at 0 rfl) (.inl n7)) (.inl n7)) (.inl n7),ae (ae (ae ((KC.out.below aL.out).at 1 rfl) (.inl n7)) (.inl n7)) (.inl n7),ae (ae (ae ((KC.out.below aL.out).at 2 rfl) (.inl n7)) (.inl n7)) (.inl n7),ae (ae (ae ((KC.out.below aL.out).at 3 rfl) (.inl n7)) (.inl n7)) (.inl n7),ae (ae (ae ((KC.out.below aL.out).at 4 rfl) (.inl n7)) (.inl n7)) (.inl n7),ae (ae (ae ((KC.out.below aL.out).at 5 rfl) (.inl n7)) (.inl n7)) (.inl n7),ae (ae (ae ((KC.out.below aL.out).at 6 rfl) (.inl n7)) (.inl n7)) (.inl n7),ae (ae (ae ((KC.out.below aL.out).at 7 rfl) (.inl n7)) (.inl n7)) (.inl n7),ae (ae (ae ((KC.out.below aL.out).at 8 rfl) (.inl n7)) (.inl n7)) (.inl n7),ae (ae (ae ((KC.out.below aL.out).at 9 rfl) (.inl n7)) (.inl n7)) (.inl n7),ae (ae (ae ((KC.out.below aL.out).at 10 rfl) (.inl n7)) (.inl n7)) (.inl n7),ae (ae (ae ((KC.out.below aL.out).at 11 rfl) (.inl n7)) (.inl n7)) (.inl n7),ae (ae (ae ((KC.out.below aL.out).at 12 rfl) (.inl n7)) (.inl n7)) (.inl n7),ae (ae (ae ((KC.out.below aL.out).at 13 rfl) (.inl n7)) (.inl n7)) (.inl n7),ae (ae (ae ((KR.out.below aL.out).at 0 rfl) (.inl n5)) (.inl n5)) (.inl n5),ae (ae (ae ((KR.out.below aL.out).at 1 rfl) (.inl n5)) (.inl n5)) (.inl n5),ae (ae (ae ((KR.out.below aL.out).at 2 rfl) (.inl n5)) (.inl n5)) (.inl n5),ae (ae (ae ((KR.out.below aL.out).at 3 rfl) (.inl n5)) (.inl n5)) (.inl n5)⟩
     clear hK K hHeld
     have hHeld:=aB
     clear aB
     (try simp only[Act.put,bL])
     refine wpAnyH_take (i:=11) (v:=?_) rfl (by kernel_rfl) (by kernel_rfl) (by kernel_rfl) (λ_ _ _ h=>h) (Or.inl ⟨by rfl,?_⟩) hHeld ?_
     rotate_left
     ·intro w hSw
      try dsimp only at hSw
      go_simp
      try with_reducible rfl
     (try simp only[Act.put,bL])
     refine wpAnyH_done (by kernel_rfl) ?_ _
     have QC:=hide ((((NK.out.off KX.out.ty (.inr λ_ h=>h) (by decide) (by decide) 0 (.string ⟨#[99]⟩)).off (KX.out.ty.set _ _ _) (.inr λ_ h=>h) (by decide) (by decide) 1 (.slice A7 1 c7)).off ((KX.out.ty.set _ _ _).set _ _ _) (.inr λ_ h=>h) (by decide) (by decide) 2 (.slice A8 1 c8)))
     go_wp2_with fail
     go_meet
     case rel=>exact ⟨gx,A7,c7,A8,c8,rfl,rfl,KX.out.set3 rfl,gD QC.out rfl,gM (gM (gM aL.out mH.out _ _) mH.out _ _) mH.out _ _⟩
   ·go_simp
    refine hK.out _ _ ?_ (λaB=>?_)
    ·exact ⟨(KC.out.below (aa mF.out af)).at 0 rfl,(KC.out.below (aa mF.out af)).at 1 rfl,(KC.out.below (aa mF.out af)).at 2 rfl,(KC.out.below (aa mF.out af)).at 3 rfl,(KC.out.below (aa mF.out af)).at 4 rfl,(KC.out.below (aa mF.out af)).at 5 rfl,(KC.out.below (aa mF.out af)).at 6 rfl,(KC.out.below (aa mF.out af)).at 7 rfl,(KC.out.below (aa mF.out af)).at 8 rfl,(KC.out.below (aa mF.out af)).at 9 rfl,(KC.out.below (aa mF.out af)).at 10 rfl,(KC.out.below (aa mF.out af)).at 11 rfl,(KC.out.below (aa mF.out af)).at 12 rfl,(KC.out.below (aa mF.out af)).at 13 rfl,(KR.out.below (aa mF.out af)).at 0 rfl,(KR.out.below (aa mF.out af)).at 1 rfl,(KR.out.below (aa mF.out af)).at 2 rfl,(KR.out.below (aa mF.out af)).at 3 rfl⟩
    clear hK K hHeld
    have hHeld:=aB
    clear aB
    (try simp only[Act.put,bL])
    obtain ⟨WX,vV⟩: ∃q,q=WI.alloc (.cells #[.string ⟨#[]⟩,.slice none 0 0,.slice none 0 0] 105):=⟨_,rfl⟩
    obtain ⟨gx,hgx⟩: ∃q,q=WI.heap.size:=⟨_,rfl⟩
    have KX:Hid (gZ WX gx 105 [.string ⟨#[]⟩,.slice none 0 0,.slice none 0 0]):=hide (by rw[vV,hgx];exact gZ.made _ _ _)
    have fV:Hid (Below W5.heap.size W5 WX):=hide (by rw[vV];exact aa mF.out af)
    have IJ:Hid (Below WI.heap.size WI WX):=hide (by rw[vV];exact af)
    have mH:Hid (W5.heap.size<=gx):=hide (by rw[hgx];exact mF.out.size)
    rw[<-vV]at hHeld
    rw[<-vV,<-hgx]
    clear vV hgx
    have Nh:=hide (Nh.out.below IJ.out)
    refine wpAnyH_ready (rs:=[4]) (by kernel_rfl) (by simp) ?_
    refine AllReadyH.cons rfl (λK hK=>?_) AllReadyH.nil
    go_simp
    go_at_call 59
    refine (kV _ _ 2 2 ([1,2]:List Int) (by exact Nh.out) (by omega)).mono ?_
    rintro e Sj ⟨⟨A6,d6,rfl,h6⟩,hb6⟩
    have aR:=hide (aa fV.out hb6)
    have Hl:=hide hb6
    have Hf:=hide h6
    clear h6 hb6
    go_wp2_with fail
    refine hK.out _ _ ?_ (λaB=>?_)
    ·exact ⟨(KC.out.below (aR.out)).at 0 rfl,(KC.out.below (aR.out)).at 1 rfl,(KC.out.below (aR.out)).at 2 rfl,(KC.out.below (aR.out)).at 3 rfl,(KC.out.below (aR.out)).at 4 rfl,(KC.out.below (aR.out)).at 5 rfl,(KC.out.below (aR.out)).at 6 rfl,(KC.out.below (aR.out)).at 7 rfl,(KC.out.below (aR.out)).at 8 rfl,(KC.out.below (aR.out)).at 9 rfl,(KC.out.below (aR.out)).at 10 rfl,(KC.out.below (aR.out)).at 11 rfl,(KC.out.below (aR.out)).at 12 rfl,(KC.out.below (aR.out)).at 13 rfl,(KR.out.below (aR.out)).at 0 rfl,(KR.out.below (aR.out)).at 1 rfl,(KR.out.below (aR.out)).at 2 rfl,(KR.out.below (aR.out)).at 3 rfl⟩
    clear hK K hHeld
    have hHeld:=aB
    clear aB
    (try simp only[Act.put,bL])
    have KX:=hide (KX.out.below Hl.out)
    refine wpAnyH_ready (rs:=[5]) (by kernel_rfl) (by simp) ?_
    refine AllReadyH.cons rfl (λK hK=>?_) AllReadyH.nil
    go_simp
    go_at_call 60
    refine (rW.out _ _ _ (by exact RO.out.below (aR.out)) _ _ (by exact RS.out.below (aR.out)) _ _ (by exact Vf.out.below (aR.out)) (by exact RZ.out.below (aR.out)) _ _ (by exact Hf.out)).mono ?_
    rintro e w7 ⟨⟨v7,v8,rfl,Aw,Mk⟩,dC⟩
    obtain ⟨A7,c7,rfl⟩:=Aw.form
    obtain ⟨A8,c8,rfl⟩:=Mk.form
    have NK:=hide Aw
    have aL:=hide (aa aR.out dC)
    have IK:=hide dC
    clear Aw Mk dC
    go_wp2_with fail
    refine hK.out _ _ ?_ (λaB=>?_)
    ·exact ⟨(KC.out.below (aL.out)).at 0 rfl,(KC.out.below (aL.out)).at 1 rfl,(KC.out.below (aL.out)).at 2 rfl,(KC.out.below (aL.out)).at 3 rfl,(KC.out.below (aL.out)).at 4 rfl,(KC.out.below (aL.out)).at 5 rfl,(KC.out.below (aL.out)).at 6 rfl,(KC.out.below (aL.out)).at 7 rfl,(KC.out.below (aL.out)).at 8 rfl,(KC.out.below (aL.out)).at 9 rfl,(KC.out.below (aL.out)).at 10 rfl,(KC.out.below (aL.out)).at 11 rfl,(KC.out.below (aL.out)).at 12 rfl,(KC.out.below (aL.out)).at 13 rfl,(KR.out.below (aL.out)).at 0 rfl,(KR.out.below (aL.out)).at 1 rfl,(KR.out.below (aL.out)).at 2 rfl,(KR.out.below (aL.out)).at 3 rfl⟩
    clear hK K hHeld
    have hHeld:=aB
    clear aB
    (try simp only[Act.put,bL])
    have KX:=hide (KX.out.below IK.out)
    refine wpAnyH_take (i:=6) (v:=?_) rfl (by kernel_rfl) (by kernel_rfl) (by kernel_rfl) (λ_ _ _ h=>h) (Or.inl ⟨by rfl,?_⟩) hHeld ?_
    rotate_left
    ·intro w hSw
     try dsimp only at hSw
     go_simp
     try with_reducible rfl
    (try simp only[Act.put,bL])
    refine wpAnyH_take (i:=7) (v:=?_) rfl (by kernel_rfl) (by kernel_rfl) (by kernel_rfl) (λ_ _ _ h=>h) (Or.inl ⟨by rfl,?_⟩) hHeld ?_
    rotate_left
    ·intro w hSw
     try dsimp only at hSw
     go_simp
     try with_reducible rfl
    (try simp only[Act.put,bL])
    refine wpAnyH_take (i:=8) (v:=?_) rfl (by kernel_rfl) (by kernel_rfl) (by kernel_rfl) (λ_ _ _ h=>h) (Or.inl ⟨by rfl,?_⟩) hHeld ?_
    rotate_left
    ·intro w hSw
     try dsimp only at hSw
     go_simp
     try with_reducible rfl
    (try simp only[Act.put,bL])
    have x0:=KX.out.at 0 rfl
    have x1:=KX.out.at 1 rfl
    have x2:=KX.out.at 2 rfl
    have y0:=KX.out.fz 0
    have y1:=KX.out.fz 1
    have y2:=KX.out.fz 2
    have n5:¬g5=gx:=λe=>by have h1:=KR.out.lt;have h2:=mH.out;omega
    have n7:¬g7=gx:=λe=>by have h1:=KC.out.lt;have h2:=mH.out;omega
    refine wpAnyH_ready (rs:=[10]) (by kernel_rfl) (by simp) ?_
    refine AllReadyH.cons rfl (λK hK=>?_) AllReadyH.nil
    go_simp
    refine hK.out _ _ ?_ (λaB=>?_)
    ·exact ⟨ae (ae (ae ((KC.out.below aL.out).at 0 rfl) (.inl n7)) (.inl n7)) (.inl n7),ae (ae (ae ((KC.out.below aL.out).at 1 rfl) (.inl n7)) (.inl n7)) (.inl n7),ae (ae (ae ((KC.out.below aL.out).at 2 rfl) (.inl n7)) (.inl n7)) (.inl n7),ae (ae (ae ((KC.out.below aL.out).at 3 rfl) (.inl n7)) (.inl n7)) (.inl n7),ae (ae (ae ((KC.out.below aL.out).at 4 rfl) (.inl n7)) (.inl n7)) (.inl n7),ae (ae (ae ((KC.out.below aL.out).at 5 rfl) (.inl n7)) (.inl n7)) (.inl n7),ae (ae (ae ((KC.out.below aL.out).at 6 rfl) (.inl n7)) (.inl n7)) (.inl n7),ae (ae (ae ((KC.out.below aL.out).at 7 rfl) (.inl n7)) (.inl n7)) (.inl n7),ae (ae (ae ((KC.out.below aL.out).at 8 rfl) (.inl n7)) (.inl n7)) (.inl n7),ae (ae (ae ((KC.out.below aL.out).at 9 rfl) (.inl n7)) (.inl n7)) (.inl n7),ae (ae (ae ((KC.out.below aL.out).at 10 rfl) (.inl n7)) (.inl n7)) (.inl n7),ae (ae (ae ((KC.out.below aL.out).at 11 rfl) (.inl n7)) (.inl n7)) (.inl n7),ae (ae (ae ((KC.out.below aL.out).at 12 rfl) (.inl n7)) (.inl n7)) (.inl n7),ae (ae (ae ((KC.out.below aL.out).at 13 rfl) (.inl n7)) (.inl n7)) (.inl n7),ae (ae (ae ((KR.out.below aL.out).at 0 rfl) (.inl n5)) (.inl n5)) (.inl n5),ae (ae (ae ((KR.out.below aL.out).at 1 rfl) (.inl n5)) (.inl n5)) (.inl n5),ae (ae (ae ((KR.out.below aL.out).at 2 rfl) (.inl n5)) (.inl n5)) (.inl n5),ae (ae (ae ((KR.out.below aL.out).at 3 rfl) (.inl n5)) (.inl n5)) (.inl n5)⟩
    clear hK K hHeld
    have hHeld:=aB
    clear aB
    (try simp only[Act.put,bL])
    refine wpAnyH_take (i:=11) (v:=?_) rfl (by kernel_rfl) (by kernel_rfl) (by kernel_rfl) (λ_ _ _ h=>h) (Or.inl ⟨by rfl,?_⟩) hHeld ?_
    rotate_left
    ·intro w hSw
     try dsimp only at hSw
     go_simp
     try with_reducible rfl
    (try simp only[Act.put,bL])
    refine wpAnyH_done (by kernel_rfl) ?_ _
    have QC:=hide ((((NK.out.off KX.out.ty (.inr λ_ h=>h) (by decide) (by decide) 0 (.string ⟨#[99]⟩)).off (KX.out.ty.set _ _ _) (.inr λ_ h=>h) (by decide) (by decide) 1 (.slice A7 1 c7)).off ((KX.out.ty.set _ _ _).set _ _ _) (.inr λ_ h=>h) (by decide) (by decide) 2 (.slice A8 1 c8)))
    go_wp2_with fail
    go_meet
    case rel=>exact ⟨gx,A7,c7,A8,c8,rfl,rfl,KX.out.set3 rfl,gD QC.out rfl,gM (gM (gM aL.out mH.out _ _) mH.out _ _) mH.out _ _⟩
  ·go_simp
   refine hK.out _ _ ?_ (λaB=>?_)
   ·exact ⟨(KC.out.below (aa iH.out af)).at 0 rfl,(KC.out.below (aa iH.out af)).at 1 rfl,(KC.out.below (aa iH.out af)).at 2 rfl,(KC.out.below (aa iH.out af)).at 3 rfl,(KC.out.below (aa iH.out af)).at 4 rfl,(KC.out.below (aa iH.out af)).at 5 rfl,(KC.out.below (aa iH.out af)).at 6 rfl,(KC.out.below (aa iH.out af)).at 7 rfl,(KC.out.below (aa iH.out af)).at 8 rfl,(KC.out.below (aa iH.out af)).at 9 rfl,(KC.out.below (aa iH.out af)).at 10 rfl,(KC.out.below (aa iH.out af)).at 11 rfl,(KC.out.below (aa iH.out af)).at 12 rfl,(KC.out.below (aa iH.out af)).at 13 rfl,(KR.out.below (aa iH.out af)).at 0 rfl,(KR.out.below (aa iH.out af)).at 1 rfl,(KR.out.below (aa iH.out af)).at 2 rfl,(KR.out.below (aa iH.out af)).at 3 rfl⟩
   clear hK K hHeld
   have hHeld:=aB
   clear aB
   (try simp only[Act.put,bL])
   obtain ⟨WX,vV⟩: ∃q,q=WD.alloc (.cells #[.string ⟨#[]⟩,.slice none 0 0,.slice none 0 0] 105):=⟨_,rfl⟩
   obtain ⟨gx,hgx⟩: ∃q,q=WD.heap.size:=⟨_,rfl⟩
   have KX:Hid (gZ WX gx 105 [.string ⟨#[]⟩,.slice none 0 0,.slice none 0 0]):=hide (by rw[vV,hgx];exact gZ.made _ _ _)
   have fV:Hid (Below W5.heap.size W5 WX):=hide (by rw[vV];exact aa iH.out af)
   have IJ:Hid (Below WD.heap.size WD WX):=hide (by rw[vV];exact af)
   have mH:Hid (W5.heap.size<=gx):=hide (by rw[hgx];exact iH.out.size)
   rw[<-vV]at hHeld
   rw[<-vV,<-hgx]
   clear vV hgx
   refine wpAnyH_ready (rs:=[3]) (by kernel_rfl) (by simp) ?_
   refine AllReadyH.cons rfl (λK hK=>?_) AllReadyH.nil
   go_simp
   refine hK.out _ _ ?_ (λaB=>?_)
   ·exact ⟨(KC.out.below (aa fV.out af)).at 0 rfl,(KC.out.below (aa fV.out af)).at 1 rfl,(KC.out.below (aa fV.out af)).at 2 rfl,(KC.out.below (aa fV.out af)).at 3 rfl,(KC.out.below (aa fV.out af)).at 4 rfl,(KC.out.below (aa fV.out af)).at 5 rfl,(KC.out.below (aa fV.out af)).at 6 rfl,(KC.out.below (aa fV.out af)).at 7 rfl,(KC.out.below (aa fV.out af)).at 8 rfl,(KC.out.below (aa fV.out af)).at 9 rfl,(KC.out.below (aa fV.out af)).at 10 rfl,(KC.out.below (aa fV.out af)).at 11 rfl,(KC.out.below (aa fV.out af)).at 12 rfl,(KC.out.below (aa fV.out af)).at 13 rfl,(KR.out.below (aa fV.out af)).at 0 rfl,(KR.out.below (aa fV.out af)).at 1 rfl,(KR.out.below (aa fV.out af)).at 2 rfl,(KR.out.below (aa fV.out af)).at 3 rfl⟩
   clear hK K hHeld
   have hHeld:=aB
   clear aB
   (try simp only[Act.put,bL])
   obtain ⟨WI,Cz⟩: ∃q,q=WX.alloc (.cells #[.int .i64 1,.int .i64 2] 3):=⟨_,rfl⟩
   obtain ⟨gi,hgi⟩: ∃q,q=WX.heap.size:=⟨_,rfl⟩
   have KI:Hid (gZ WI gi 3 [.int .i64 1,.int .i64 2]):=hide (by rw[Cz,hgi];exact gZ.made _ _ _)
   have mF:Hid (Below W5.heap.size W5 WI):=hide (by rw[Cz];exact aa fV.out af)
   have Ti:Hid (Below WX.heap.size WX WI):=hide (by rw[Cz];exact af)
   have Wo:Hid (W5.heap.size<=gi):=hide (by rw[hgi];exact fV.out.size)
   rw[<-Cz]at hHeld
   rw[<-Cz,<-hgi]
   clear Cz hgi
   have Nh:Hid (In WI (some ⟨gi,0,none⟩) 2 2 ([1,2]:List Int)):=hide (Bq _ _ 1 2 (jL (by omega) (by omega)) (jL (by omega) (by omega)) KI.out)
   have KX:=hide (KX.out.below Ti.out)
   refine wpAnyH_ready (rs:=[4]) (by kernel_rfl) (by simp) ?_
   refine AllReadyH.cons rfl (λK hK=>?_) AllReadyH.nil
   go_simp
   go_at_call 59
   refine (kV _ _ 2 2 ([1,2]:List Int) (by exact Nh.out) (by omega)).mono ?_
   rintro e Sj ⟨⟨A6,d6,rfl,h6⟩,hb6⟩
   have aR:=hide (aa mF.out hb6)
   have Hl:=hide hb6
   have Hf:=hide h6
   clear h6 hb6
   go_wp2_with fail
   refine hK.out _ _ ?_ (λaB=>?_)
   ·exact ⟨(KC.out.below (aR.out)).at 0 rfl,(KC.out.below (aR.out)).at 1 rfl,(KC.out.below (aR.out)).at 2 rfl,(KC.out.below (aR.out)).at 3 rfl,(KC.out.below (aR.out)).at 4 rfl,(KC.out.below (aR.out)).at 5 rfl,(KC.out.below (aR.out)).at 6 rfl,(KC.out.below (aR.out)).at 7 rfl,(KC.out.below (aR.out)).at 8 rfl,(KC.out.below (aR.out)).at 9 rfl,(KC.out.below (aR.out)).at 10 rfl,(KC.out.below (aR.out)).at 11 rfl,(KC.out.below (aR.out)).at 12 rfl,(KC.out.below (aR.out)).at 13 rfl,(KR.out.below (aR.out)).at 0 rfl,(KR.out.below (aR.out)).at 1 rfl,(KR.out.below (aR.out)).at 2 rfl,(KR.out.below (aR.out)).at 3 rfl⟩
   clear hK K hHeld
   have hHeld:=aB
   clear aB
   (try simp only[Act.put,bL])
   have KX:=hide (KX.out.below Hl.out)
   refine wpAnyH_ready (rs:=[5]) (by kernel_rfl) (by simp) ?_
   refine AllReadyH.cons rfl (λK hK=>?_) AllReadyH.nil
   go_simp
   go_at_call 60
   refine (rW.out _ _ _ (by exact RO.out.below (aR.out)) _ _ (by exact RS.out.below (aR.out)) _ _ (by exact Vf.out.below (aR.out)) (by exact RZ.out.below (aR.out)) _ _ (by exact Hf.out)).mono ?_
   rintro e w7 ⟨⟨v7,v8,rfl,Aw,Mk⟩,dC⟩
   obtain ⟨A7,c7,rfl⟩:=Aw.form
   obtain ⟨A8,c8,rfl⟩:=Mk.form
   have NK:=hide Aw
   have aL:=hide (aa aR.out dC)
   have IK:=hide dC
   clear Aw Mk dC
   go_wp2_with fail
   refine hK.out _ _ ?_ (λaB=>?_)
   ·exact ⟨(KC.out.below (aL.out)).at 0 rfl,(KC.out.below (aL.out)).at 1 rfl,(KC.out.below (aL.out)).at 2 rfl,(KC.out.below (aL.out)).at 3 rfl,(KC.out.below (aL.out)).at 4 rfl,(KC.out.below (aL.out)).at 5 rfl,(KC.out.below (aL.out)).at 6 rfl,(KC.out.below (aL.out)).at 7 rfl,(KC.out.below (aL.out)).at 8 rfl,(KC.out.below (aL.out)).at 9 rfl,(KC.out.below (aL.out)).at 10 rfl,(KC.out.below (aL.out)).at 11 rfl,(KC.out.below (aL.out)).at 12 rfl,(KC.out.below (aL.out)).at 13 rfl,(KR.out.below (aL.out)).at 0 rfl,(KR.out.below (aL.out)).at 1 rfl,(KR.out.below (aL.out)).at 2 rfl,(KR.out.below (aL.out)).at 3 rfl⟩
   clear hK K hHeld
   have hHeld:=aB
   clear aB
   (try simp only[Act.put,bL])
   have KX:=hide (KX.out.below IK.out)
   refine wpAnyH_take (i:=6) (v:=?_) rfl (by kernel_rfl) (by kernel_rfl) (by kernel_rfl) (λ_ _ _ h=>h) (Or.inl ⟨by rfl,?_⟩) hHeld ?_
   rotate_left
   ·intro w hSw
    try dsimp only at hSw
    go_simp
    try with_reducible rfl
   (try simp only[Act.put,bL])
   refine wpAnyH_take (i:=7) (v:=?_) rfl (by kernel_rfl) (by kernel_rfl) (by kernel_rfl) (λ_ _ _ h=>h) (Or.inl ⟨by rfl,?_⟩) hHeld ?_
   rotate_left
   ·intro w hSw
    try dsimp only at hSw
    go_simp
    try with_reducible rfl
   (try simp only[Act.put,bL])
   refine wpAnyH_take (i:=8) (v:=?_) rfl (by kernel_rfl) (by kernel_rfl) (by kernel_rfl) (λ_ _ _ h=>h) (Or.inl ⟨by rfl,?_⟩) hHeld ?_
   rotate_left
   ·intro w hSw
    try dsimp only at hSw
    go_simp
    try with_reducible rfl
   (try simp only[Act.put,bL])
   have x0:=KX.out.at 0 rfl
   have x1:=KX.out.at 1 rfl
   have x2:=KX.out.at 2 rfl
   have y0:=KX.out.fz 0
   have y1:=KX.out.fz 1
   have y2:=KX.out.fz 2
   have n5:¬g5=gx:=λe=>by have h1:=KR.out.lt;have h2:=mH.out;omega
   have n7:¬g7=gx:=λe=>by have h1:=KC.out.lt;have h2:=mH.out;omega
   refine wpAnyH_ready (rs:=[10]) (by kernel_rfl) (by simp) ?_
   refine AllReadyH.cons rfl (λK hK=>?_) AllReadyH.nil
   go_simp
   refine hK.out _ _ ?_ (λaB=>?_)
   ·exact ⟨ae (ae (ae ((KC.out.below aL.out).at 0 rfl) (.inl n7)) (.inl n7)) (.inl n7),ae (ae (ae ((KC.out.below aL.out).at 1 rfl) (.inl n7)) (.inl n7)) (.inl n7),ae (ae (ae ((KC.out.below aL.out).at 2 rfl) (.inl n7)) (.inl n7)) (.inl n7),ae (ae (ae ((KC.out.below aL.out).at 3 rfl) (.inl n7)) (.inl n7)) (.inl n7),ae (ae (ae ((KC.out.below aL.out).at 4 rfl) (.inl n7)) (.inl n7)) (.inl n7),ae (ae (ae ((KC.out.below aL.out).at 5 rfl) (.inl n7)) (.inl n7)) (.inl n7),ae (ae (ae ((KC.out.below aL.out).at 6 rfl) (.inl n7)) (.inl n7)) (.inl n7),ae (ae (ae ((KC.out.below aL.out).at 7 rfl) (.inl n7)) (.inl n7)) (.inl n7),ae (ae (ae ((KC.out.below aL.out).at 8 rfl) (.inl n7)) (.inl n7)) (.inl n7),ae (ae (ae ((KC.out.below aL.out).at 9 rfl) (.inl n7)) (.inl n7)) (.inl n7),ae (ae (ae ((KC.out.below aL.out).at 10 rfl) (.inl n7)) (.inl n7)) (.inl n7),ae (ae (ae ((KC.out.below aL.out).at 11 rfl) (.inl n7)) (.inl n7)) (.inl n7),ae (ae (ae ((KC.out.below aL.out).at 12 rfl) (.inl n7)) (.inl n7)) (.inl n7),ae (ae (ae ((KC.out.below aL.out).at 13 rfl) (.inl n7)) (.inl n7)) (.inl n7),ae (ae (ae ((KR.out.below aL.out).at 0 rfl) (.inl n5)) (.inl n5)) (.inl n5),ae (ae (ae ((KR.out.below aL.out).at 1 rfl) (.inl n5)) (.inl n5)) (.inl n5),ae (ae (ae ((KR.out.below aL.out).at 2 rfl) (.inl n5)) (.inl n5)) (.inl n5),ae (ae (ae ((KR.out.below aL.out).at 3 rfl) (.inl n5)) (.inl n5)) (.inl n5)⟩
   clear hK K hHeld
   have hHeld:=aB
   clear aB
   (try simp only[Act.put,bL])
   refine wpAnyH_take (i:=11) (v:=?_) rfl (by kernel_rfl) (by kernel_rfl) (by kernel_rfl) (λ_ _ _ h=>h) (Or.inl ⟨by rfl,?_⟩) hHeld ?_
   rotate_left
   ·intro w hSw
    try dsimp only at hSw
    go_simp
    try with_reducible rfl
   (try simp only[Act.put,bL])
   refine wpAnyH_done (by kernel_rfl) ?_ _
   have QC:=hide ((((NK.out.off KX.out.ty (.inr λ_ h=>h) (by decide) (by decide) 0 (.string ⟨#[99]⟩)).off (KX.out.ty.set _ _ _) (.inr λ_ h=>h) (by decide) (by decide) 1 (.slice A7 1 c7)).off ((KX.out.ty.set _ _ _).set _ _ _) (.inr λ_ h=>h) (by decide) (by decide) 2 (.slice A8 1 c8)))
   go_wp2_with fail
   go_meet
   case rel=>exact ⟨gx,A7,c7,A8,c8,rfl,rfl,KX.out.set3 rfl,gD QC.out rfl,gM (gM (gM aL.out mH.out _ _) mH.out _ _) mH.out _ _⟩
 case rest=>
  obtain ⟨gx,A7,c7,A8,c8,rfl,rfl,hkx,hx7,hb⟩:=hcut
  have KX:=hide hkx
  have Sr:=hide hb
  have jk:=hide (aa (aa BU.out yx.out) Sr.out)
  obtain ⟨bv,ov,v,rfl,kT,HV,f0,f1,f2,X7⟩:=hx7.val (k:=0) (by omega)
  obtain rfl:iV 1=v:=by have h:=HV.out;simpa using h
  have F1:=hide f1
  have fo:=hide kT
  clear hkx hx7 hb f0 f1 f2 HV kT
  have KR:=hide (KR.out.below Sr.out)
  have YM:=hide (RO.out.below Sr.out)
  have YP:=hide (RS.out.below Sr.out)
  have Zm:=hide (RZ.out.below Sr.out)
  clear KE KN KC
  clear RO RS RZ rW Vh
  obtain ⟨vG,q0,q1,q2,q3⟩:=KR.out.ats4
  go_wp2_with fail
  obtain ⟨FT,Eh⟩: ∃W,W=wc.alloc (.cells #[.string ⟨#[97]⟩] 9):=⟨_,rfl⟩
  obtain ⟨ga,hga⟩: ∃q,q=wc.heap.size:=⟨_,rfl⟩
  have KA:Hid (gZ FT ga 9 [.string ⟨#[97]⟩]):=hide (by rw[Eh,hga];exact gZ.made _ _ _)
  have Xl:Hid (FT.heap.size=ga+1):=hide (by rw[Eh,hga];exact World.size_alloc _ _)
  have QF:Hid (Below wc.heap.size wc FT):=hide (by rw[Eh];exact af)
  have Y4:Hid (wc.heap.size<=ga):=hide (by rw[hga];exact Nat.le_refl _)
  have Vx:Hid (¬g5=ga):=hide (by have h:=KR.out.lt;omega)
  have VF:Hid (¬gx=ga):=hide (by have h:=KX.out.lt;omega)
  rw[<-Eh,<-hga]
  have YV:=hide hga
  clear Eh hga
  have KR:=hide (KR.out.below QF.out)
  have KX:=hide (KX.out.below QF.out)
  have PR:=hide QF.out
  obtain ⟨QJ,Ei⟩: ∃W,W=FT.alloc (.cells #[.string ⟨#[98]⟩] 9):=⟨_,rfl⟩
  obtain ⟨gb,hgb⟩: ∃q,q=FT.heap.size:=⟨_,rfl⟩
  have KB:Hid (gZ QJ gb 9 [.string ⟨#[98]⟩]):=hide (by rw[Ei,hgb];exact gZ.made _ _ _)
  have ZM:Hid (QJ.heap.size=gb+1):=hide (by rw[Ei,hgb];exact World.size_alloc _ _)
  have NQ:Hid (Below FT.heap.size FT QJ):=hide (by rw[Ei];exact af)
  have Y5:Hid (wc.heap.size<=gb):=hide (by rw[hgb];exact PR.out.size)
  have Vy:Hid (¬g5=gb):=hide (by have h:=KR.out.lt;omega)
  have VG:Hid (¬gx=gb):=hide (by have h:=KX.out.lt;omega)
  have VC:Hid (¬ga=gb):=hide (by have h:=KA.out.lt;omega)
  have UG:gb=ga+1:=by rw[hgb];exact Xl.out
  rw[<-Ei,<-UG]
  clear UG
  have YW:=hide hgb
  clear Ei hgb
  have KR:=hide (KR.out.below NQ.out)
  have KX:=hide (KX.out.below NQ.out)
  have KA:=hide (KA.out.below NQ.out)
  have Ho:=hide (aa PR.out NQ.out)
  have Zc:=hide (C9 _ ga ⟨#[97]⟩ Qd KA.out)
  have Wv:=hide (C9 _ gb ⟨#[98]⟩ UY KB.out)
  obtain ⟨_,r0,r1,r2,r3⟩:=KR.out.ats4
  go_wp2_with fail
  refine (WN.out _ _ _ (YM.out.below Ho.out) _ _ (YP.out.below Ho.out) _ _ Zc.out _ _ Wv.out (Zm.out.below Ho.out)).mono ?_
  rintro e Pw ⟨rfl,uQ⟩
  clear vG q0 q1 q2 q3 r0 r1 r2 r3
  have KR:=hide (KR.out.below uQ)
  have KX:=hide (KX.out.below uQ)
  have KA:=hide (KA.out.below uQ)
  have KB:=hide (KB.out.below uQ)
  have DF:=hide (aa Ho.out uQ)
  clear uQ
  go_upto_region 6 with (fail)
  obtain ⟨FU,qV⟩: ∃W,W=Pw.alloc (.cells #[.string ⟨#[116]⟩,.bool true,.int .i64 0,.int .i64 4,.int .i64 10] 68):=⟨_,rfl⟩
  obtain ⟨gv,hgv⟩: ∃q,q=Pw.heap.size:=⟨_,rfl⟩
  have KV:Hid (gZ FU gv 68 [.string ⟨#[116]⟩,.bool true,.int .i64 0,.int .i64 4,.int .i64 10]):=hide (by rw[qV,hgv];exact gZ.made _ _ _)
  have ZN:Hid (FU.heap.size=gv+1):=hide (by rw[qV,hgv];exact World.size_alloc _ _)
  have Tk:Hid (Below Pw.heap.size Pw FU):=hide (by rw[qV];exact af)
  have Y6:Hid (wc.heap.size<=gv):=hide (by rw[hgv];exact DF.out.size)
  have Vz:Hid (¬g5=gv):=hide (by have h:=KR.out.lt;omega)
  have VH:Hid (¬gx=gv):=hide (by have h:=KX.out.lt;omega)
  have VD:Hid (¬ga=gv):=hide (by have h:=KA.out.lt;omega)
  have VE:Hid (¬gb=gv):=hide (by have h:=KB.out.lt;omega)
  rw[<-qV,<-hgv]
  have YX:=hide hgv
  clear qV hgv
  have KX:=hide (KX.out.below Tk.out)
  have PS:=hide (aa DF.out Tk.out)
  obtain ⟨Zz,x0,x1,x2⟩:=KX.out.ats3
  obtain ⟨Tx,v0,v1,v2,v3,v4⟩:=KV.out.ats5
  have f1:=ah PS.out fo.out F1.out
  simp only[Nat.zero_mul,Nat.add_zero,iV]at f1
  have ND:=hide PS.out
  go_wp2
  go_ret
  exact ⟨rfl,aa jk.out ND.out⟩
theorem Q8 (w:World)(a:ByteArray)(b:Bool)(c d e:Int):(binOp .eql 68 (.agg #[.string a,.bool b,.int .i64 c,.int .i64 d,.int .i64 e]) (.agg #[.string a,.bool b,.int .i64 c,.int .i64 d,.int .i64 e])).run Tryz.prog w=.ok (.bool true) w:=by
 have u1:=Tryz.underlying3
 have u2:=Tryz.underlying9
 have u3:=Tryz.underlying4
 have a1:=Tryz.isAgg3
 have a2:=Tryz.isAgg9
 have a3:=Tryz.isAgg4
 have z1:=Tryz.sizeOf3
 have z2:=Tryz.sizeOf9
 have z3:=Tryz.sizeOf4
 have hS:Tryz.prog.underlying 68=some (.struct (Tryz.prog.fieldsOf 68)):=by kernel_rfl
 have hp:Tryz.prog.stoodInHeld 68=false:=by kernel_rfl
 rw[run_eql_struct,show (10000:Nat)=9999+1 from rfl,run_equalIn_agg w 9999 68 _ _ hS hp]
 simp only[Program.fieldsOf,Tryz.underlying68]
 go_simp
 try simp
theorem EB (w:World)(x:Chk)(A:Option Addr)(n c:Nat)(hn:In w A n c x.cols)(A':Option Addr)(n' c':Nat)(hn':In w A' n' c' x.ocols)(aY:Option Addr)(n'' c'':Nat)(hq:In w aY n'' c'' x.cond)(hw:Words w)(rn:ByteArray)(A1:Option Addr)(n1 c1:Nat)(cols:List Col)(hc:In w A1 n1 c1 cols)(Ak:Option Addr)(nk ck:Nat)(A3:Option Addr)(n3 c3:Nat)(rows:List Ent)(hr:In w A3 n3 c3 rows)(on:ByteArray)(A2:Option Addr)(n2 c2:Nat)(ocols:List Col)(ho:In w A2 n2 c2 ocols)(Al:Option Addr)(nl cl:Nat)(A4:Option Addr)(n4 c4:Nat)(orows:List Ent)(hor:In w A4 n4 c4 orows)(A5:Option Addr)(n5 c5:Nat)(zs:List Zone)(hz:In w A5 n5 c5 zs):
  Calls Tryz.prog 8 #[.agg (ax x A n c A' n' c' aY n'' c'').toArray,.agg #[.string rn,.slice A1 n1 c1,.slice Ak nk ck,.slice A3 n3 c3],.agg #[.string on,.slice A2 n2 c2,.slice Al nl cl,.slice A4 n4 c4],.slice A5 n5 c5] w λe w'=>e=.returned (.bool true)/\Below w.heap.size w w':=by
 have SF:=hide λW hn hn' hq hc hr ho hor hz=>EC W x A n c hn A' n' c' hn' aY n'' c'' hq rn A1 n1 c1 cols hc Ak nk ck A3 n3 c3 rows hr on A2 n2 c2 ocols ho Al nl cl A4 n4 c4 orows hor A5 n5 c5 zs hz
 have WL:=hide λW hn hn' hq hw hc hr ho hor hz (b0:n<=16) (b1:n'<=16) (b2:n1<=16) (b3:n2<=16)=>kH W x A n c hn A' n' c' hn' aY n'' c'' hq hw rn A1 n1 c1 cols hc Ak nk ck A3 n3 c3 rows hr on A2 n2 c2 ocols ho Al nl cl A4 n4 c4 orows hor A5 n5 c5 zs hz (by omega) (by omega) (by omega) (by omega)
 have PM:=hide λW hn hn' hq hc hr ho hor hz (b0:n<=16) (b1:n'<=16) (b2:n1<=16) (b3:n2<=16)=>iG W x A n c hn A' n' c' hn' aY n'' c'' hq rn A1 n1 c1 cols hc Ak nk ck A3 n3 c3 rows hr on A2 n2 c2 ocols ho Al nl cl A4 n4 c4 orows hor A5 n5 c5 zs hz (by omega) (by omega) (by omega) (by omega)
 have Cb:=hide λW hn hn' hq hw hc hr ho hor hz (b0:n<=16) (b1:n'<=16) (b2:n1<=16) (b3:n2<=16)=>Jt W x A n c hn A' n' c' hn' aY n'' c'' hq hw rn A1 n1 c1 cols hc Ak nk ck A3 n3 c3 rows hr on A2 n2 c2 ocols ho Al nl cl A4 n4 c4 orows hor A5 n5 c5 zs hz (by omega) (by omega) (by omega) (by omega)
 have IG:=hide λW hn hn' hq hc hr ho hor hz (b0:n<=16) (b1:n'<=16) (b2:n1<=16) (b3:n2<=16)=>Ev W x A n c hn A' n' c' hn' aY n'' c'' hq rn A1 n1 c1 cols hc Ak nk ck A3 n3 c3 rows hr on A2 n2 c2 ocols ho Al nl cl A4 n4 c4 orows hor A5 n5 c5 zs hz (by omega) (by omega) (by omega) (by omega)
 obtain ⟨⟨E,L⟩,hE⟩: ∃q,bG x cols ocols rows orows zs=q:=⟨_,rfl⟩
 obtain ⟨⟨F,q0,q1,q2,q3,q4⟩,hF⟩: ∃q,di x cols ocols rows orows zs=q:=⟨_,rfl⟩
 rw[hE]at WL PM
 rw[hF]at Cb IG
 clear hE hF
 simp only[ax,Ver.cells]at SF WL PM Cb IG⊢
 have HN:=hide hn
 have eT:=hide hn'
 have HQ:=hide hq
 have HW:=hide hw
 have HC:=hide hc
 have HO:=hide ho
 have HZ:=hide hz
 have HR:=hide hr
 have kr:=hide hor
 clear hn hn' hq hw hc ho hz hr hor
 go_enter Tryz.func8,Tryz.ntmps8
 go_wp2_with fail
 obtain ⟨tJ,qQ⟩: ∃W,W=w.alloc (.cells #[.string x.name,.string x.table,.int .i64 x.kind,.slice A n c,.string x.other,.slice A' n' c',.int .i64 x.low,.int .i64 x.high,.slice aY n'' c'',.int .i64 x.ln,.int .i64 x.ld,.int .i64 x.mn,.int .i64 x.md,.int .i64 x.policy] 27):=⟨_,rfl⟩
 obtain ⟨g1,hg1⟩: ∃q,q=w.heap.size:=⟨_,rfl⟩
 have KC:Hid (gZ tJ g1 27 [.string x.name,.string x.table,.int .i64 x.kind,.slice A n c,.string x.other,.slice A' n' c',.int .i64 x.low,.int .i64 x.high,.slice aY n'' c'',.int .i64 x.ln,.int .i64 x.ld,.int .i64 x.mn,.int .i64 x.md,.int .i64 x.policy]):=hide (by rw[qQ,hg1];exact gZ.made _ _ _)
 have Xi:Hid (tJ.heap.size=g1+1):=hide (by rw[qQ,hg1];exact World.size_alloc _ _)
 have WP:Hid (Below w.heap.size w tJ):=hide (by rw[qQ];exact af)
 have YZ:Hid (w.heap.size<=g1):=hide (by rw[hg1];exact Nat.le_refl _)
 rw[<-qQ,<-hg1]
 have YQ:=hide hg1
 clear qQ hg1
 have PN:=hide WP.out
 obtain ⟨tK,qR⟩: ∃W,W=tJ.alloc (.cells #[.string rn,.slice A1 n1 c1,.slice Ak nk ck,.slice A3 n3 c3] 32):=⟨_,rfl⟩
 obtain ⟨g2,hg2⟩: ∃q,q=tJ.heap.size:=⟨_,rfl⟩
 have KR:Hid (gZ tK g2 32 [.string rn,.slice A1 n1 c1,.slice Ak nk ck,.slice A3 n3 c3]):=hide (by rw[qR,hg2];exact gZ.made _ _ _)
 have Xj:Hid (tK.heap.size=g2+1):=hide (by rw[qR,hg2];exact World.size_alloc _ _)
 have Tj:Hid (Below tJ.heap.size tJ tK):=hide (by rw[qR];exact af)
 have Y0:Hid (w.heap.size<=g2):=hide (by rw[hg2];exact PN.out.size)
 have Vk:Hid (¬g1=g2):=hide (by have h:=KC.out.lt;omega)
 have UA:g2=g1+1:=by rw[hg2];exact Xi.out
 rw[<-qR,<-UA]
 clear UA
 have YR:=hide hg2
 clear qR hg2
 have KC:=hide (KC.out.below Tj.out)
 have PO:=hide (aa PN.out Tj.out)
 obtain ⟨yB,qU⟩: ∃W,W=tK.alloc (.cells #[.string on,.slice A2 n2 c2,.slice Al nl cl,.slice A4 n4 c4] 32):=⟨_,rfl⟩
 obtain ⟨g3,hg3⟩: ∃q,q=tK.heap.size:=⟨_,rfl⟩
 have KO:Hid (gZ yB g3 32 [.string on,.slice A2 n2 c2,.slice Al nl cl,.slice A4 n4 c4]):=hide (by rw[qU,hg3];exact gZ.made _ _ _)
 have ZK:Hid (yB.heap.size=g3+1):=hide (by rw[qU,hg3];exact World.size_alloc _ _)
 have QE:Hid (Below tK.heap.size tK yB):=hide (by rw[qU];exact af)
 have Y1:Hid (w.heap.size<=g3):=hide (by rw[hg3];exact PO.out.size)
 have Vl:Hid (¬g1=g3):=hide (by have h:=KC.out.lt;omega)
 have Vo:Hid (¬g2=g3):=hide (by have h:=KR.out.lt;omega)
 have UB:g3=g2+1:=by rw[hg3];exact Xj.out
 rw[<-qU,<-UB]
 clear UB
 have YS:=hide hg3
 clear qU hg3
 have KC:=hide (KC.out.below QE.out)
 have KR:=hide (KR.out.below QE.out)
 have uo:=hide (aa PO.out QE.out)
 obtain ⟨yz,g0,g1,g2,g3,g4,g5,g6,g7,g8,g9,g10,g11,g12,g13⟩:=KC.out.ats14
 obtain ⟨vG,r0,r1,r2,r3⟩:=KR.out.ats4
 obtain ⟨Ce,s0,s1,s2,s3⟩:=KO.out.ats4
 go_wp2_with fail
 refine (SF.out _ (HN.out.below uo.out) (eT.out.below uo.out) (HQ.out.below uo.out) (HC.out.below uo.out) (HR.out.below uo.out) (HO.out.below uo.out) (kr.out.below uo.out) (HZ.out.below uo.out)).mono ?_
 rintro e VT ⟨⟨b,rfl,hb⟩,mM⟩
 clear yz g0 g1 g2 g3 g4 g5 g6 g7 g8 g9 g10 g11 g12 g13 vG r0 r1 r2 r3 Ce s0 s1 s2 s3
 have KC:=hide (KC.out.below mM)
 have KR:=hide (KR.out.below mM)
 have KO:=hide (KO.out.below mM)
 have qh:=hide (aa uo.out mM)
 clear mM
 cases b
 ·go_wp2_with fail
  refine (wT _ (HW.out.below qh.out)).mono ?_
  rintro e X8 ⟨rfl,Au⟩
  have yx:=hide (aa qh.out Au)
  clear Au
  go_wp2
  go_ret
  exact ⟨rfl,yx.out⟩
 obtain ⟨hb0,hb1,hb2,hb3⟩:=hb rfl
 obtain ⟨yz,g0,g1,g2,g3,g4,g5,g6,g7,g8,g9,g10,g11,g12,g13⟩:=KC.out.ats14
 obtain ⟨vG,r0,r1,r2,r3⟩:=KR.out.ats4
 obtain ⟨Ce,s0,s1,s2,s3⟩:=KO.out.ats4
 go_wp2_with fail
 refine (WL.out _ (HN.out.below qh.out) (eT.out.below qh.out) (HQ.out.below qh.out) (HW.out.below qh.out) (HC.out.below qh.out) (HR.out.below qh.out) (HO.out.below qh.out) (kr.out.below qh.out) (HZ.out.below qh.out) hb0 hb1 hb2 hb3).mono ?_
 rintro e w15 ⟨⟨v1,rfl,ho1⟩,qZ⟩
 clear yz g0 g1 g2 g3 g4 g5 g6 g7 g8 g9 g10 g11 g12 g13 vG r0 r1 r2 r3 Ce s0 s1 s2 s3
 have KC:=hide (KC.out.below qZ)
 have KR:=hide (KR.out.below qZ)
 have KO:=hide (KO.out.below qZ)
 have uq:=hide (aa qh.out qZ)
 clear qZ
 obtain ⟨B1,d1,rfl⟩:=ho1.form
 obtain ⟨m1,hm1⟩: ∃m,L.length=m:=⟨_,rfl⟩
 rw[hm1]at ho1⊢
 have uh:=hide hm1
 have Ag:=hide ho1
 clear ho1
 obtain ⟨yz,g0,g1,g2,g3,g4,g5,g6,g7,g8,g9,g10,g11,g12,g13⟩:=KC.out.ats14
 obtain ⟨vG,r0,r1,r2,r3⟩:=KR.out.ats4
 obtain ⟨Ce,s0,s1,s2,s3⟩:=KO.out.ats4
 go_wp2_with fail
 refine (PM.out _ (HN.out.below uq.out) (eT.out.below uq.out) (HQ.out.below uq.out) (HC.out.below uq.out) (HR.out.below uq.out) (HO.out.below uq.out) (kr.out.below uq.out) (HZ.out.below uq.out) hb0 hb1 hb2 hb3).mono ?_
 rintro e w16 ⟨⟨v2,rfl,ho2⟩,oC⟩
 clear yz g0 g1 g2 g3 g4 g5 g6 g7 g8 g9 g10 g11 g12 g13 vG r0 r1 r2 r3 Ce s0 s1 s2 s3
 have KC:=hide (KC.out.below oC)
 have KR:=hide (KR.out.below oC)
 have KO:=hide (KO.out.below oC)
 have Ag:=hide (Ag.out.below oC)
 have sK:=hide (aa uq.out oC)
 clear oC
 obtain ⟨B2,d2,rfl⟩:=ho2.form
 rw[hm1]at ho2⊢
 clear hm1
 have kJ:=hide ho2
 clear ho2
 obtain ⟨yz,g0,g1,g2,g3,g4,g5,g6,g7,g8,g9,g10,g11,g12,g13⟩:=KC.out.ats14
 obtain ⟨vG,r0,r1,r2,r3⟩:=KR.out.ats4
 obtain ⟨Ce,s0,s1,s2,s3⟩:=KO.out.ats4
 go_wp2_with fail
 refine (Cb.out _ (HN.out.below sK.out) (eT.out.below sK.out) (HQ.out.below sK.out) (HW.out.below sK.out) (HC.out.below sK.out) (HR.out.below sK.out) (HO.out.below sK.out) (kr.out.below sK.out) (HZ.out.below sK.out) hb0 hb1 hb2 hb3).mono ?_
 rintro e Pw ⟨rfl,uQ⟩
 clear yz g0 g1 g2 g3 g4 g5 g6 g7 g8 g9 g10 g11 g12 g13 vG r0 r1 r2 r3 Ce s0 s1 s2 s3
 have KC:=hide (KC.out.below uQ)
 have KR:=hide (KR.out.below uQ)
 have KO:=hide (KO.out.below uQ)
 have Ag:=hide (Ag.out.below uQ)
 have kJ:=hide (kJ.out.below uQ)
 have DF:=hide (aa sK.out uQ)
 clear uQ
 go_upto_region 6 with (fail)
 obtain ⟨FU,qV⟩: ∃W,W=Pw.alloc (.cells #[.string q0,.bool q1,.int .i64 q2,.int .i64 q3,.int .i64 q4] 68):=⟨_,rfl⟩
 obtain ⟨g4,hg4⟩: ∃q,q=Pw.heap.size:=⟨_,rfl⟩
 have KV:Hid (gZ FU g4 68 [.string q0,.bool q1,.int .i64 q2,.int .i64 q3,.int .i64 q4]):=hide (by rw[qV,hg4];exact gZ.made _ _ _)
 have TE:Hid (FU.heap.size=g4+1):=hide (by rw[qV,hg4];exact World.size_alloc _ _)
 have Cc:Hid (Below Pw.heap.size Pw FU):=hide (by rw[qV];exact af)
 have Wm:Hid (w.heap.size<=g4):=hide (by rw[hg4];exact DF.out.size)
 have Vm:Hid (¬g1=g4):=hide (by have h:=KC.out.lt;omega)
 have Vp:Hid (¬g2=g4):=hide (by have h:=KR.out.lt;omega)
 have Vr:Hid (¬g3=g4):=hide (by have h:=KO.out.lt;omega)
 rw[<-qV,<-hg4]
 have Wi:=hide hg4
 clear qV hg4
 have KC:=hide (KC.out.below Cc.out)
 have KR:=hide (KR.out.below Cc.out)
 have KO:=hide (KO.out.below Cc.out)
 have Ag:=hide (Ag.out.below Cc.out)
 have kJ:=hide (kJ.out.below Cc.out)
 have qg:=hide (aa DF.out Cc.out)
 obtain ⟨yz,g0,g1,g2,g3,g4,g5,g6,g7,g8,g9,g10,g11,g12,g13⟩:=KC.out.ats14
 obtain ⟨vG,r0,r1,r2,r3⟩:=KR.out.ats4
 obtain ⟨Ce,s0,s1,s2,s3⟩:=KO.out.ats4
 go_wp2_with fail
 refine (IG.out _ (HN.out.below qg.out) (eT.out.below qg.out) (HQ.out.below qg.out) (HC.out.below qg.out) (HR.out.below qg.out) (HO.out.below qg.out) (kr.out.below qg.out) (HZ.out.below qg.out) hb0 hb1 hb2 hb3).mono ?_
 rintro e U5 ⟨rfl,rf⟩
 clear yz g0 g1 g2 g3 g4 g5 g6 g7 g8 g9 g10 g11 g12 g13 vG r0 r1 r2 r3 Ce s0 s1 s2 s3
 have KC:=hide (KC.out.below rf)
 have KR:=hide (KR.out.below rf)
 have KO:=hide (KO.out.below rf)
 have KV:=hide (KV.out.below rf)
 have Ag:=hide (Ag.out.below rf)
 have kJ:=hide (kJ.out.below rf)
 have PU:=hide (aa qg.out rf)
 clear rf
 go_upto_region 7 with (fail)
 obtain ⟨QK,Ej⟩: ∃W,W=U5.alloc (.cells #[.string q0,.bool q1,.int .i64 q2,.int .i64 q3,.int .i64 q4] 68):=⟨_,rfl⟩
 obtain ⟨g5,hg5⟩: ∃q,q=U5.heap.size:=⟨_,rfl⟩
 have KU:Hid (gZ QK g5 68 [.string q0,.bool q1,.int .i64 q2,.int .i64 q3,.int .i64 q4]):=hide (by rw[Ej,hg5];exact gZ.made _ _ _)
 have TF:Hid (QK.heap.size=g5+1):=hide (by rw[Ej,hg5];exact World.size_alloc _ _)
 have DD:Hid (Below U5.heap.size U5 QK):=hide (by rw[Ej];exact af)
 have Wn:Hid (w.heap.size<=g5):=hide (by rw[hg5];exact PU.out.size)
 have Vn:Hid (¬g1=g5):=hide (by have h:=KC.out.lt;omega)
 have Vq:Hid (¬g2=g5):=hide (by have h:=KR.out.lt;omega)
 have Vs:Hid (¬g3=g5):=hide (by have h:=KO.out.lt;omega)
 have NR:Hid (¬g4=g5):=hide (by have h:=KV.out.lt;omega)
 rw[<-Ej,<-hg5]
 have Wj:=hide hg5
 clear Ej hg5
 have KV:=hide (KV.out.below DD.out)
 have Ag:=hide (Ag.out.below DD.out)
 have kJ:=hide (kJ.out.below DD.out)
 have Hm:=hide (aa PU.out DD.out)
 go_wp2_with fail
 refine (Di _ _ _ _ _ _ _ L L (gD Ag.out uh.out) (gD kJ.out uh.out)).mono ?_
 rintro e U6 ⟨⟨b,rfl,hbb⟩,lV⟩
 have KV:=hide (KV.out.below lV)
 have KU:=hide (KU.out.below lV)
 have PW:=hide (aa Hm.out lV)
 clear lV
 obtain rfl:b=true:=hbb.2 rfl
 clear hbb
 have hev:=λW=>Q8 W q0 q1 q2 q3 q4
 obtain ⟨Tx,u0,u1,u2,u3,u4⟩:=KV.out.ats5
 obtain ⟨WR,v0,v1,v2,v3,v4⟩:=KU.out.ats5
 go_wp2_with fail
 refine (wT _ (HW.out.below PW.out)).mono ?_
 rintro e X9 ⟨rfl,El⟩
 clear Tx u0 u1 u2 u3 u4 WR v0 v1 v2 v3 v4
 have Tn:=hide (aa PW.out El)
 clear El
 go_wp2
 go_ret
 exact ⟨rfl,Tn.out⟩
end Go.Proofs.YtggejcekmehocaaGreatDoor
