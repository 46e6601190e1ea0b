/-
  inspect.sums; results in several cells. (Printed by gen_insa.py.)
-/
import Derived.Test.YtggejcekmehocaaGreatDoorGbc
import Derived.Test.YtggejcekmehocaaGreatDoorGan
import Derived.Test.YtggejcekmehocaaGreatDoorBlk
namespace Go.Proofs.YtggejcekmehocaaGreatDoor
set_option maxHeartbeats 4000000
set_option maxRecDepth 100000
open Go.RowKit Go.Maps
set_option linter.unusedSimpArgs false
set_option linter.unusedVariables false
section
variable {P:Program}
theorem loadVar_cells (fn:Func){ty:TypeId}(w:World)(g:Nat)(cs:List Value)(d:TypeDesc)(hc: ∀j v,cs[j]?=some v->w.cell? ⟨g,j,none⟩=some v)(hu:P.underlying ty=some d)(hd:(match d with| .struct _| .array _ _=>true| _=>false)=true)(hi:(P.info? ty).map (·.size)=some cs.length):(loadVar ty ⟨g,0,none⟩).run P w=.ok (.agg cs.toArray) w:=by
 have h1:=results_cells (P:=P) (fn:={fn with results:= #[.cell 0 ty]}) (p:=0) (ty:=ty) rfl #[.pointer (some ⟨g,0,none⟩)] w g cs d rfl hc hu hd hi
 simp only[results]at h1
 simpa[asAddr,Sem.run_bind,Result.andThen] using h1
theorem results_ctt {fn:Func}{p a b:Tmp}{ty:TypeId}(h:fn.results= #[.cell p ty,.tmp a,.tmp b])(tmps:Array Value)(w:World)(g:Nat)(cs:List Value)(d:TypeDesc)(ua ub:Value)(hp:tmps.getD p undef=.pointer (some ⟨g,0,none⟩))(ha:tmps.getD a undef=ua)(hb:tmps.getD b undef=ub)(hc: ∀j v,cs[j]?=some v->w.cell? ⟨g,j,none⟩=some v)(hu:P.underlying ty=some d)(hd:(match d with| .struct _| .array _ _=>true| _=>false)=true)(hi:(P.info? ty).map (·.size)=some cs.length):
  (results fn tmps).run P w=.ok (.tuple #[.agg cs.toArray,ua,ub]) w:=by
 have hl:=loadVar_cells (P:=P) fn w g cs d hc hu hd hi
 have hp':tmps[p]?.getD undef=.pointer (some ⟨g,0,none⟩):=by simpa using hp
 have ha':tmps[a]?.getD undef=ua:=by simpa using ha
 have hb':tmps[b]?.getD undef=ub:=by simpa using hb
 simp[results,h,hp',ha',hb',asAddr,hl]
theorem results_cct {fn:Func}{p q a:Tmp}{ty ty2:TypeId}(h:fn.results= #[.cell p ty,.cell q ty2,.tmp a])(tmps:Array Value)(w:World)(g g2:Nat)(cs ds:List Value)(d d2:TypeDesc)(ua:Value)(hp:tmps.getD p undef=.pointer (some ⟨g,0,none⟩))(hq:tmps.getD q undef=.pointer (some ⟨g2,0,none⟩))(ha:tmps.getD a undef=ua)(hc: ∀j v,cs[j]?=some v->w.cell? ⟨g,j,none⟩=some v)(hc2: ∀j v,ds[j]?=some v->w.cell? ⟨g2,j,none⟩=some v)(hu:P.underlying ty=some d)(hd:(match d with| .struct _| .array _ _=>true| _=>false)=true)(hi:(P.info? ty).map (·.size)=some cs.length)(hu2:P.underlying ty2=some d2)(hd2:(match d2 with| .struct _| .array _ _=>true| _=>false)=true)(hi2:(P.info? ty2).map (·.size)=some ds.length):
  (results fn tmps).run P w=.ok (.tuple #[.agg cs.toArray,.agg ds.toArray,ua]) w:=by
 have hl:=loadVar_cells (P:=P) fn w g cs d hc hu hd hi
 have hl2:=loadVar_cells (P:=P) fn w g2 ds d2 hc2 hu2 hd2 hi2
 have hp':tmps[p]?.getD undef=.pointer (some ⟨g,0,none⟩):=by simpa using hp
 have hq':tmps[q]?.getD undef=.pointer (some ⟨g2,0,none⟩):=by simpa using hq
 have ha':tmps[a]?.getD undef=ua:=by simpa using ha
 simp[results,h,hp',hq',ha',asAddr,hl,hl2]
end
def sumsS (c:Chk)(i:Insp)(rr orr:List Ent):Int×List Ent×List Ent:=
 if (addS i.rows rr).1≠0 then ((addS i.rows rr).1,[],[]) else if usesO c.kind=true then ((addS i.other orr).1,(addS i.rows rr).2,(addS i.other orr).2) else (0,(addS i.rows rr).2,[])
def SumsAt (B:Nat)(w:World)(e:Ending)(E:Int)(rn:ByteArray)(A1:Option Addr)(n1 c1:Nat)(Ak:Option Addr)(nk ck:Nat)(on:ByteArray)(A2:Option Addr)(n2 c2:Nat)(Al:Option Addr)(nl cl:Nat)(rs os:List Ent):Prop:=
 (E=0-> ∃v3 v4,e=.returned (.tuple #[.agg #[.string rn,.slice A1 n1 c1,.slice Ak nk ck,v3],.agg #[.string on,.slice A2 n2 c2,.slice Al nl cl,v4],.int .i64 0])/\OE B w v3 rs/\OE B w v4 os)/\
 (E≠0-> ∃s t a1 p1 q1 a2 p2 q2 a3 p3 q3 b1 p4 q4 b2 p5 q5 b3 p6 q6,e=.returned (.tuple #[.agg #[.string s,.slice a1 p1 q1,.slice a2 p2 q2,.slice a3 p3 q3],.agg #[.string t,.slice b1 p4 q4,.slice b2 p5 q5,.slice b3 p6 q6],.int .i64 E]))
theorem sums_fin {w0 W W':World}{g g':Nat}{lz ly:List Value}(hz:Blk W g 32 lz)(hy:Blk W g' 32 ly)(lz4:lz.length=4)(ly4:ly.length=4)(hne:¬g=g')(hg:w0.heap.size<=g)(hg':w0.heap.size<=g')(hb:Below w0.heap.size w0 W)(a0 a1 a2 a3 b0 b1 b2 b3:Value)(hW:W'=(((((((W.setCell ⟨g,0,none⟩ a0).setCell ⟨g,1,none⟩ a1).setCell ⟨g,2,none⟩ a2).setCell ⟨g,3,none⟩ a3).setCell ⟨g',0,none⟩ b0).setCell ⟨g',1,none⟩ b1).setCell ⟨g',2,none⟩ b2).setCell ⟨g',3,none⟩ b3):
  (∀j v,[a0,a1,a2,a3][j]?=some v->W'.cell? ⟨g,j,none⟩=some v)/\(∀j v,[b0,b1,b2,b3][j]?=some v->W'.cell? ⟨g',j,none⟩=some v)/\Below w0.heap.size w0 W'/\ ∀{v:Value} {xs:List Ent},OE w0.heap.size W v xs->OE w0.heap.size W' v xs:=by
 subst hW
 have t0:=hz.ty
 have hne':¬g'=g:=λh=>hne h.symm
 have z1:=hz.set4 lz4 (a0:=a0) (a1:=a1) (a2:=a2) (a3:=a3)
 have y1:=(((hy.far hne' 0 a0).far hne' 1 a1).far hne' 2 a2).far hne' 3 a3
 have t1:=y1.ty
 have z2:=(((z1.far hne 0 b0).far hne 1 b1).far hne 2 b2).far hne 3 b3
 have y2:=y1.set4 ly4 (a0:=b0) (a1:=b1) (a2:=b2) (a3:=b3)
 refine ⟨z2.all,y2.all,below_set (below_set (below_set (below_set (below_set (below_set (below_set (below_set hb hg 0 a0) hg 1 a1) hg 2 a2) hg 3 a3) hg' 0 b0) hg' 1 b1) hg' 2 b2) hg' 3 b3,λho=>?_⟩
 have o1:=(((ho.off t0 (.inr λ_ h=>h) (by decide) (by decide) 0 a0).off (t0.set g 0 a0) (.inr λ_ h=>h) (by decide) (by decide) 1 a1).off ((t0.set g 0 a0).set g 1 a1) (.inr λ_ h=>h) (by decide) (by decide) 2 a2).off (((t0.set g 0 a0).set g 1 a1).set g 2 a2) (.inr λ_ h=>h) (by decide) (by decide) 3 a3
 exact (((o1.off t1 (.inr λ_ h=>h) (by decide) (by decide) 0 b0).off (t1.set g' 0 b0) (.inr λ_ h=>h) (by decide) (by decide) 1 b1).off ((t1.set g' 0 b0).set g' 1 b1) (.inr λ_ h=>h) (by decide) (by decide) 2 b2).off (((t1.set g' 0 b0).set g' 1 b1).set g' 2 b2) (.inr λ_ h=>h) (by decide) (by decide) 3 b3
theorem sums_find {w0 W W':World}{g g':Nat}{lz ly:List Value}(hz:Blk W g 32 lz)(hy:Blk W g' 32 ly)(lz4:lz.length=4)(ly4:ly.length=4)(hne:¬g=g')(hg:w0.heap.size<=g)(hg':w0.heap.size<=g')(hb:Below w0.heap.size w0 W)(a0 a1 a2 a3 b0 b1 b2 b3:Value)(hW:W'=((((((((W.setCell ⟨g,0,none⟩ a0).setCell ⟨g,1,none⟩ a1).setCell ⟨g,2,none⟩ a2).setCell ⟨g,3,none⟩ a3).setCell ⟨g',0,none⟩ b0).setCell ⟨g',1,none⟩ b1).setCell ⟨g',2,none⟩ b2).setCell ⟨g',3,none⟩ b3).drew):
  (∀j v,[a0,a1,a2,a3][j]?=some v->W'.cell? ⟨g,j,none⟩=some v)/\(∀j v,[b0,b1,b2,b3][j]?=some v->W'.cell? ⟨g',j,none⟩=some v)/\Below w0.heap.size w0 W'/\ ∀{v:Value} {xs:List Ent},OE w0.heap.size W v xs->OE w0.heap.size W' v xs:=by
 obtain ⟨V,hV⟩: ∃V,V=(((((((W.setCell ⟨g,0,none⟩ a0).setCell ⟨g,1,none⟩ a1).setCell ⟨g,2,none⟩ a2).setCell ⟨g,3,none⟩ a3).setCell ⟨g',0,none⟩ b0).setCell ⟨g',1,none⟩ b1).setCell ⟨g',2,none⟩ b2).setCell ⟨g',3,none⟩ b3:=⟨_,rfl⟩
 rw[<-hV]at hW
 subst hW
 obtain ⟨c1,c2,c3,c4⟩:=sums_fin hz hy lz4 ly4 hne hg hg' hb a0 a1 a2 a3 b0 b1 b2 b3 hV
 clear hV
 exact ⟨c1,c2,c3.drew,λho=>(c4 ho).below (Below.refl _ _).drew⟩
theorem sums_any (w:World)(x:Chk)(A:Option Addr)(n c:Nat)(A':Option Addr)(n' c':Nat)(A'':Option Addr)(n'' c'':Nat)(i:Insp)(B7:Option Addr)(m7 d7:Nat)(hi7:In w B7 m7 d7 i.rows)(B8:Option Addr)(m8 d8:Nat)(hi8:In w B8 m8 d8 i.other)(B9:Option Addr)(m9 d9:Nat)(rn:ByteArray)(A1:Option Addr)(n1 c1:Nat)(Ak:Option Addr)(nk ck:Nat)(A3:Option Addr)(n3 c3:Nat)(rows:List Ent)(hr:In w A3 n3 c3 rows)(on:ByteArray)(A2:Option Addr)(n2 c2:Nat)(Al:Option Addr)(nl cl:Nat)(A4:Option Addr)(n4 c4:Nat)(orows:List Ent)(hor:In w A4 n4 c4 orows):
  Calls Tryz.prog 41 #[.agg (chkCells x A n c A' n' c' A'' n'' c'').toArray,.agg #[.slice B7 m7 d7,.slice B8 m8 d8,.slice B9 m9 d9],.agg #[.string rn,.slice A1 n1 c1,.slice Ak nk ck,.slice A3 n3 c3],.agg #[.string on,.slice A2 n2 c2,.slice Al nl cl,.slice A4 n4 c4]] w
   λe w'=>SumsAt w.heap.size w' e (sumsS x i rows orows).1 rn A1 n1 c1 Ak nk ck on A2 n2 c2 Al nl cl (sumsS x i rows orows).2.1 (sumsS x i rows orows).2.2/\Below w.heap.size w w':=by
 have HUS:=hide λW=>usesOI_any W x A n c A' n' c' A'' n'' c''
 simp only[chkCells]at HUS⊢
 have HR:=hide hr
 have HOR:=hide hor
 have HI7:=hide hi7
 have HI8:=hide hi8
 clear hr hor hi7 hi8
 go_enter Tryz.func41,Tryz.ntmps41
 go_wp2_with fail
 obtain ⟨W901,hW901⟩: ∃W,W=w.alloc (.cells #[.string x.name,.string x.table,.int .i64 x.kind,.slice A n c,.string x.other,.slice A' n' c',.int .i64 x.low,.int .i64 x.high,.slice A'' n'' c'',.int .i64 x.ln,.int .i64 x.ld,.int .i64 x.mn,.int .i64 x.md,.int .i64 x.policy] 27):=⟨_,rfl⟩
 obtain ⟨g1,hg1⟩: ∃q,q=w.heap.size:=⟨_,rfl⟩
 have KC:Hid (Blk W901 g1 27 [.string x.name,.string x.table,.int .i64 x.kind,.slice A n c,.string x.other,.slice A' n' c',.int .i64 x.low,.int .i64 x.high,.slice A'' n'' c'',.int .i64 x.ln,.int .i64 x.ld,.int .i64 x.mn,.int .i64 x.md,.int .i64 x.policy]):=hide (by rw[hW901,hg1];exact Blk.made _ _ _)
 have SZg1:Hid (W901.heap.size=g1+1):=hide (by rw[hW901,hg1];exact World.size_alloc _ _)
 have LBg1:Hid (Below w.heap.size w W901):=hide (by rw[hW901];exact below_alloc)
 have HGg1:Hid (w.heap.size<=g1):=hide (by rw[hg1];exact Nat.le_refl _)
 rw[<-hW901,<-hg1]
 have HEg1:=hide hg1
 clear hW901 hg1
 have LHBg1:=hide LBg1.out
 obtain ⟨W902,hW902⟩: ∃W,W=W901.alloc (.cells #[.slice B7 m7 d7,.slice B8 m8 d8,.slice B9 m9 d9] 36):=⟨_,rfl⟩
 obtain ⟨g2,hg2⟩: ∃q,q=W901.heap.size:=⟨_,rfl⟩
 have KI:Hid (Blk W902 g2 36 [.slice B7 m7 d7,.slice B8 m8 d8,.slice B9 m9 d9]):=hide (by rw[hW902,hg2];exact Blk.made _ _ _)
 have SZg2:Hid (W902.heap.size=g2+1):=hide (by rw[hW902,hg2];exact World.size_alloc _ _)
 have LBg2:Hid (Below W901.heap.size W901 W902):=hide (by rw[hW902];exact below_alloc)
 have HGg2:Hid (w.heap.size<=g2):=hide (by rw[hg2];exact LHBg1.out.size)
 have NEg1_g2:Hid (¬g1=g2):=hide (by have h:=KC.out.lt;omega)
 have hqg2:g2=g1+1:=by rw[hg2];exact SZg1.out
 rw[<-hW902,<-hqg2]
 clear hqg2
 have HEg2:=hide hg2
 clear hW902 hg2
 have KC:=hide (KC.out.below LBg2.out)
 have LHBg2:=hide (below_trans LHBg1.out LBg2.out)
 obtain ⟨W903,hW903⟩: ∃W,W=W902.alloc (.cells #[.string rn,.slice A1 n1 c1,.slice Ak nk ck,.slice A3 n3 c3] 32):=⟨_,rfl⟩
 obtain ⟨g3,hg3⟩: ∃q,q=W902.heap.size:=⟨_,rfl⟩
 have KR:Hid (Blk W903 g3 32 [.string rn,.slice A1 n1 c1,.slice Ak nk ck,.slice A3 n3 c3]):=hide (by rw[hW903,hg3];exact Blk.made _ _ _)
 have SZg3:Hid (W903.heap.size=g3+1):=hide (by rw[hW903,hg3];exact World.size_alloc _ _)
 have LBg3:Hid (Below W902.heap.size W902 W903):=hide (by rw[hW903];exact below_alloc)
 have HGg3:Hid (w.heap.size<=g3):=hide (by rw[hg3];exact LHBg2.out.size)
 have NEg1_g3:Hid (¬g1=g3):=hide (by have h:=KC.out.lt;omega)
 have NEg2_g3:Hid (¬g2=g3):=hide (by have h:=KI.out.lt;omega)
 have hqg3:g3=g2+1:=by rw[hg3];exact SZg2.out
 rw[<-hW903,<-hqg3]
 clear hqg3
 have HEg3:=hide hg3
 clear hW903 hg3
 have KC:=hide (KC.out.below LBg3.out)
 have KI:=hide (KI.out.below LBg3.out)
 have LHBg3:=hide (below_trans LHBg2.out LBg3.out)
 obtain ⟨W904,hW904⟩: ∃W,W=W903.alloc (.cells #[.string on,.slice A2 n2 c2,.slice Al nl cl,.slice A4 n4 c4] 32):=⟨_,rfl⟩
 obtain ⟨g4,hg4⟩: ∃q,q=W903.heap.size:=⟨_,rfl⟩
 have KO:Hid (Blk W904 g4 32 [.string on,.slice A2 n2 c2,.slice Al nl cl,.slice A4 n4 c4]):=hide (by rw[hW904,hg4];exact Blk.made _ _ _)
 have SZg4:Hid (W904.heap.size=g4+1):=hide (by rw[hW904,hg4];exact World.size_alloc _ _)
 have LBg4:Hid (Below W903.heap.size W903 W904):=hide (by rw[hW904];exact below_alloc)
 have HGg4:Hid (w.heap.size<=g4):=hide (by rw[hg4];exact LHBg3.out.size)
 have NEg1_g4:Hid (¬g1=g4):=hide (by have h:=KC.out.lt;omega)
 have NEg2_g4:Hid (¬g2=g4):=hide (by have h:=KI.out.lt;omega)
 have NEg3_g4:Hid (¬g3=g4):=hide (by have h:=KR.out.lt;omega)
 have hqg4:g4=g3+1:=by rw[hg4];exact SZg3.out
 rw[<-hW904,<-hqg4]
 clear hqg4
 have HEg4:=hide hg4
 clear hW904 hg4
 have KC:=hide (KC.out.below LBg4.out)
 have KI:=hide (KI.out.below LBg4.out)
 have KR:=hide (KR.out.below LBg4.out)
 have LHBg4:=hide (below_trans LHBg3.out LBg4.out)
 obtain ⟨W905,hW905⟩: ∃W,W=W904.alloc (.cells #[.string ⟨#[]⟩,.slice none 0 0,.slice none 0 0,.slice none 0 0] 32):=⟨_,rfl⟩
 obtain ⟨g5,hg5⟩: ∃q,q=W904.heap.size:=⟨_,rfl⟩
 have KZ:Hid (Blk W905 g5 32 [.string ⟨#[]⟩,.slice none 0 0,.slice none 0 0,.slice none 0 0]):=hide (by rw[hW905,hg5];exact Blk.made _ _ _)
 have SZg5:Hid (W905.heap.size=g5+1):=hide (by rw[hW905,hg5];exact World.size_alloc _ _)
 have LBg5:Hid (Below W904.heap.size W904 W905):=hide (by rw[hW905];exact below_alloc)
 have HGg5:Hid (w.heap.size<=g5):=hide (by rw[hg5];exact LHBg4.out.size)
 have NEg1_g5:Hid (¬g1=g5):=hide (by have h:=KC.out.lt;omega)
 have NEg2_g5:Hid (¬g2=g5):=hide (by have h:=KI.out.lt;omega)
 have NEg3_g5:Hid (¬g3=g5):=hide (by have h:=KR.out.lt;omega)
 have NEg4_g5:Hid (¬g4=g5):=hide (by have h:=KO.out.lt;omega)
 have hqg5:g5=g4+1:=by rw[hg5];exact SZg4.out
 rw[<-hW905,<-hqg5]
 clear hqg5
 have HEg5:=hide hg5
 clear hW905 hg5
 have KC:=hide (KC.out.below LBg5.out)
 have KI:=hide (KI.out.below LBg5.out)
 have KR:=hide (KR.out.below LBg5.out)
 have KO:=hide (KO.out.below LBg5.out)
 have LHBg5:=hide (below_trans LHBg4.out LBg5.out)
 obtain ⟨W906,hW906⟩: ∃W,W=W905.alloc (.cells #[.string ⟨#[]⟩,.slice none 0 0,.slice none 0 0,.slice none 0 0] 32):=⟨_,rfl⟩
 obtain ⟨g6,hg6⟩: ∃q,q=W905.heap.size:=⟨_,rfl⟩
 have KY:Hid (Blk W906 g6 32 [.string ⟨#[]⟩,.slice none 0 0,.slice none 0 0,.slice none 0 0]):=hide (by rw[hW906,hg6];exact Blk.made _ _ _)
 have SZg6:Hid (W906.heap.size=g6+1):=hide (by rw[hW906,hg6];exact World.size_alloc _ _)
 have LBg6:Hid (Below W905.heap.size W905 W906):=hide (by rw[hW906];exact below_alloc)
 have HGg6:Hid (w.heap.size<=g6):=hide (by rw[hg6];exact LHBg5.out.size)
 have NEg1_g6:Hid (¬g1=g6):=hide (by have h:=KC.out.lt;omega)
 have NEg2_g6:Hid (¬g2=g6):=hide (by have h:=KI.out.lt;omega)
 have NEg3_g6:Hid (¬g3=g6):=hide (by have h:=KR.out.lt;omega)
 have NEg4_g6:Hid (¬g4=g6):=hide (by have h:=KO.out.lt;omega)
 have NEg5_g6:Hid (¬g5=g6):=hide (by have h:=KZ.out.lt;omega)
 have hqg6:g6=g5+1:=by rw[hg6];exact SZg5.out
 rw[<-hW906,<-hqg6]
 clear hqg6
 have HEg6:=hide hg6
 clear hW906 hg6
 have KC:=hide (KC.out.below LBg6.out)
 have KI:=hide (KI.out.below LBg6.out)
 have KR:=hide (KR.out.below LBg6.out)
 have KO:=hide (KO.out.below LBg6.out)
 have KZ:=hide (KZ.out.below LBg6.out)
 have LHBg6:=hide (below_trans LHBg5.out LBg6.out)
 have i0:=KI.out.at 0 rfl
 have LTKI:=KI.out.lt
 have r3:=KR.out.at 3 rfl
 have LTKR:=KR.out.lt
 have hs1:=LHBg6.out.size
 go_wp2_with fail
 refine (add_bag _ _ _ _ i.rows (HI7.out.below LHBg6.out) _ _ _ rows (HR.out.below LHBg6.out)).mono ?_
 rintro e w7 ⟨⟨v1,rfl,ho1⟩,hb7⟩
 clear i0 LTKI r3 LTKR
 have KC:=hide (KC.out.below hb7)
 have KI:=hide (KI.out.below hb7)
 have KR:=hide (KR.out.below hb7)
 have KO:=hide (KO.out.below hb7)
 have KZ:=hide (KZ.out.below hb7)
 have KY:=hide (KY.out.below hb7)
 have LHC7:=hide (below_trans LHBg6.out hb7)
 clear hb7
 obtain ⟨S1,hS1⟩: ∃q,addS i.rows rows=q:=⟨_,rfl⟩
 replace ho1:=ho1.rebase hs1
 rw[hS1]at ho1⊢
 have HS1:=hide hS1
 clear hS1
 obtain ⟨E1,L1⟩:=S1
 by_cases h0:E1=0
 ·subst h0
  obtain ⟨B3,d3,rfl⟩:=ho1.form
  obtain ⟨m3,hm3⟩: ∃m,L1.length=m:=⟨_,rfl⟩
  rw[hm3]at ho1⊢
  have HM3:=hide hm3
  clear hm3
  have HO1:=hide ho1
  clear ho1
  have r3:=KR.out.at 3 rfl
  have LTKR:=KR.out.lt
  have fr0:=KR.out.fz 0
  have fr1:=KR.out.fz 1
  have fr2:=KR.out.fz 2
  have fr3:=KR.out.fz 3
  go_upto_region 5 with (fail)
  obtain ⟨W908,hW908⟩: ∃W,W=(w7.setCell ⟨g3,3,none⟩ (.slice B3 m3 d3)):=⟨_,rfl⟩
  clear r3 LTKR fr0 fr1 fr2 fr3
  have HO1:=hide (HO1.out.off KR.out.ty (.inr λ_ h=>h) (by decide) (by decide) 3 (.slice B3 m3 d3))
  rw[<-hW908]at HO1
  have KC:=hide (KC.out.far NEg1_g3.out 3 (.slice B3 m3 d3))
  rw[<-hW908]at KC
  have KI:=hide (KI.out.far NEg2_g3.out 3 (.slice B3 m3 d3))
  rw[<-hW908]at KI
  have KO:=hide (KO.out.far (λh=>NEg3_g4.out h.symm) 3 (.slice B3 m3 d3))
  rw[<-hW908]at KO
  have KZ:=hide (KZ.out.far (λh=>NEg3_g5.out h.symm) 3 (.slice B3 m3 d3))
  rw[<-hW908]at KZ
  have KY:=hide (KY.out.far (λh=>NEg3_g6.out h.symm) 3 (.slice B3 m3 d3))
  rw[<-hW908]at KY
  have KR:=hide (KR.out.set 3 (.slice B3 m3 d3))
  rw[<-hW908]at KR
  simp only[List.set_cons_zero,List.set_cons_succ]at KR
  have LHS8:=hide (below_set LHC7.out HGg3.out 3 (.slice B3 m3 d3))
  rw[<-hW908]at LHS8
  rw[<-hW908]
  clear hW908
  obtain ⟨LTKC,g0,g1,g2,g3,g4,g5,g6,g7,g8,g9,g10,g11,g12,g13⟩:=KC.out.ats14
  go_wp2_with fail
  refine (HUS.out _).mono ?_
  rintro e w9 ⟨rfl,hb9⟩
  clear LTKC g0 g1 g2 g3 g4 g5 g6 g7 g8 g9 g10 g11 g12 g13
  have KC:=hide (KC.out.below hb9)
  have KI:=hide (KI.out.below hb9)
  have KR:=hide (KR.out.below hb9)
  have KO:=hide (KO.out.below hb9)
  have KZ:=hide (KZ.out.below hb9)
  have KY:=hide (KY.out.below hb9)
  have HO1:=hide (HO1.out.below hb9)
  have LHC9:=hide (below_trans LHS8.out hb9)
  clear hb9
  cases hu:usesO x.kind
  ·have HU:=hide hu
   clear hu
   have s3:=KO.out.at 3 rfl
   have LTKO:=KO.out.lt
   have fs0:=KO.out.fz 0
   have fs1:=KO.out.fz 1
   have fs2:=KO.out.fz 2
   have fs3:=KO.out.fz 3
   go_upto_region 7 with (fail)
   obtain ⟨W910,hW910⟩: ∃W,W=(w9.setCell ⟨g4,3,none⟩ (.slice none 0 0)):=⟨_,rfl⟩
   clear s3 LTKO fs0 fs1 fs2 fs3
   have HO1:=hide (HO1.out.off KO.out.ty (.inr λ_ h=>h) (by decide) (by decide) 3 (.slice none 0 0))
   rw[<-hW910]at HO1
   have KC:=hide (KC.out.far NEg1_g4.out 3 (.slice none 0 0))
   rw[<-hW910]at KC
   have KI:=hide (KI.out.far NEg2_g4.out 3 (.slice none 0 0))
   rw[<-hW910]at KI
   have KR:=hide (KR.out.far NEg3_g4.out 3 (.slice none 0 0))
   rw[<-hW910]at KR
   have KZ:=hide (KZ.out.far (λh=>NEg4_g5.out h.symm) 3 (.slice none 0 0))
   rw[<-hW910]at KZ
   have KY:=hide (KY.out.far (λh=>NEg4_g6.out h.symm) 3 (.slice none 0 0))
   rw[<-hW910]at KY
   have KO:=hide (KO.out.set 3 (.slice none 0 0))
   rw[<-hW910]at KO
   simp only[List.set_cons_zero,List.set_cons_succ]at KO
   have LHS10:=hide (below_set LHC9.out HGg4.out 3 (.slice none 0 0))
   rw[<-hW910]at LHS10
   rw[<-hW910]
   clear hW910
   obtain ⟨LTKR,r0,r1,r2,r3⟩:=KR.out.ats4
   obtain ⟨LTKO,s0,s1,s2,s3⟩:=KO.out.ats4
   obtain ⟨LTKZ,z0,z1,z2,z3⟩:=KZ.out.ats4
   have fz0:=KZ.out.fz 0
   have fz1:=KZ.out.fz 1
   have fz2:=KZ.out.fz 2
   have fz3:=KZ.out.fz 3
   obtain ⟨LTKY,y0,y1,y2,y3⟩:=KY.out.ats4
   have fy0:=KY.out.fz 0
   have fy1:=KY.out.fz 1
   have fy2:=KY.out.fz 2
   have fy3:=KY.out.fz 3
   have hne:=NEg5_g6.out
   have hn35:=NEg3_g5.out
   have hn36:=NEg3_g6.out
   have hn45:=NEg4_g5.out
   have hn46:=NEg4_g6.out
   have hS:sumsS x i rows orows=(0,L1,[]):=by rw[sumsS,HS1.out,if_neg (by simp),if_neg (by rw[HU.out];simp)]
   go_region
   go_wp2
   obtain ⟨q1,q2,q3,q4⟩:=sums_find KZ.out KY.out rfl rfl NEg5_g6.out HGg5.out HGg6.out LHS10.out (.string rn) (.slice A1 n1 c1) (.slice Ak nk ck) (.slice B3 m3 d3) (.string on) (.slice A2 n2 c2) (.slice Al nl cl) (.slice none 0 0) rfl
   exact bodyPost_ret (v:=.tuple #[.agg #[.string rn,.slice A1 n1 c1,.slice Ak nk ck,.slice B3 m3 d3],.agg #[.string on,.slice A2 n2 c2,.slice Al nl cl,.slice none 0 0],.int .i64 0]) (results_cct (cs:=[.string rn,.slice A1 n1 c1,.slice Ak nk ck,.slice B3 m3 d3]) (ds:=[.string on,.slice A2 n2 c2,.slice Al nl cl,.slice none 0 0]) rfl _ _ g5 g6 _ _ _ rfl rfl rfl q1 q2 Tryz.underlying32 rfl (by kernel_rfl) Tryz.underlying32 rfl (by kernel_rfl)) rfl ⟨by rw[hS];exact ⟨λ_=>⟨_,_,rfl,q4 HO1.out,OL.nil q3.size⟩,λh=>absurd rfl h⟩,q3⟩
  ·have HU:=hide hu
   clear hu
   have i1:=KI.out.at 1 rfl
   have LTKI:=KI.out.lt
   have s3:=KO.out.at 3 rfl
   have LTKO:=KO.out.lt
   have hs2:=LHC9.out.size
   go_wp2_with fail
   refine (add_bag _ _ _ _ i.other (HI8.out.below LHC9.out) _ _ _ orows (HOR.out.below LHC9.out)).mono ?_
   rintro e w11 ⟨⟨v2,rfl,ho2⟩,hb11⟩
   clear i1 LTKI s3 LTKO
   have KC:=hide (KC.out.below hb11)
   have KI:=hide (KI.out.below hb11)
   have KR:=hide (KR.out.below hb11)
   have KO:=hide (KO.out.below hb11)
   have KZ:=hide (KZ.out.below hb11)
   have KY:=hide (KY.out.below hb11)
   have HO1:=hide (HO1.out.below hb11)
   have LHC11:=hide (below_trans LHC9.out hb11)
   clear hb11
   obtain ⟨S2,hS2⟩: ∃q,addS i.other orows=q:=⟨_,rfl⟩
   replace ho2:=ho2.rebase hs2
   rw[hS2]at ho2⊢
   have HS2:=hide hS2
   clear hS2
   obtain ⟨E2,L2⟩:=S2
   obtain ⟨D3,e3,rfl⟩:=ho2.form
   obtain ⟨l3,hl3⟩: ∃m,L2.length=m:=⟨_,rfl⟩
   rw[hl3]at ho2⊢
   have HL3:=hide hl3
   clear hl3
   have HO2:=hide ho2
   clear ho2
   have s3:=KO.out.at 3 rfl
   have LTKO:=KO.out.lt
   have fs0:=KO.out.fz 0
   have fs1:=KO.out.fz 1
   have fs2:=KO.out.fz 2
   have fs3:=KO.out.fz 3
   go_upto_region 9 with (fail)
   obtain ⟨W912,hW912⟩: ∃W,W=(w11.setCell ⟨g4,3,none⟩ (.slice D3 l3 e3)):=⟨_,rfl⟩
   clear s3 LTKO fs0 fs1 fs2 fs3
   have HO1:=hide (HO1.out.off KO.out.ty (.inr λ_ h=>h) (by decide) (by decide) 3 (.slice D3 l3 e3))
   rw[<-hW912]at HO1
   have HO2:=hide (HO2.out.off KO.out.ty (.inr λ_ h=>h) (by decide) (by decide) 3 (.slice D3 l3 e3))
   rw[<-hW912]at HO2
   have KC:=hide (KC.out.far NEg1_g4.out 3 (.slice D3 l3 e3))
   rw[<-hW912]at KC
   have KI:=hide (KI.out.far NEg2_g4.out 3 (.slice D3 l3 e3))
   rw[<-hW912]at KI
   have KR:=hide (KR.out.far NEg3_g4.out 3 (.slice D3 l3 e3))
   rw[<-hW912]at KR
   have KZ:=hide (KZ.out.far (λh=>NEg4_g5.out h.symm) 3 (.slice D3 l3 e3))
   rw[<-hW912]at KZ
   have KY:=hide (KY.out.far (λh=>NEg4_g6.out h.symm) 3 (.slice D3 l3 e3))
   rw[<-hW912]at KY
   have KO:=hide (KO.out.set 3 (.slice D3 l3 e3))
   rw[<-hW912]at KO
   simp only[List.set_cons_zero,List.set_cons_succ]at KO
   have LHS12:=hide (below_set LHC11.out HGg4.out 3 (.slice D3 l3 e3))
   rw[<-hW912]at LHS12
   rw[<-hW912]
   clear hW912
   obtain ⟨LTKR,r0,r1,r2,r3⟩:=KR.out.ats4
   obtain ⟨LTKO,s0,s1,s2,s3⟩:=KO.out.ats4
   obtain ⟨LTKZ,z0,z1,z2,z3⟩:=KZ.out.ats4
   have fz0:=KZ.out.fz 0
   have fz1:=KZ.out.fz 1
   have fz2:=KZ.out.fz 2
   have fz3:=KZ.out.fz 3
   obtain ⟨LTKY,y0,y1,y2,y3⟩:=KY.out.ats4
   have fy0:=KY.out.fz 0
   have fy1:=KY.out.fz 1
   have fy2:=KY.out.fz 2
   have fy3:=KY.out.fz 3
   have hne:=NEg5_g6.out
   have hn35:=NEg3_g5.out
   have hn36:=NEg3_g6.out
   have hn45:=NEg4_g5.out
   have hn46:=NEg4_g6.out
   have hS:sumsS x i rows orows=(E2,L1,L2):=by rw[sumsS,HS1.out,if_neg (by simp),if_pos HU.out,HS2.out]
   go_region
   go_wp2
   obtain ⟨q1,q2,q3,q4⟩:=sums_find KZ.out KY.out rfl rfl NEg5_g6.out HGg5.out HGg6.out LHS12.out (.string rn) (.slice A1 n1 c1) (.slice Ak nk ck) (.slice B3 m3 d3) (.string on) (.slice A2 n2 c2) (.slice Al nl cl) (.slice D3 l3 e3) rfl
   exact bodyPost_ret (v:=.tuple #[.agg #[.string rn,.slice A1 n1 c1,.slice Ak nk ck,.slice B3 m3 d3],.agg #[.string on,.slice A2 n2 c2,.slice Al nl cl,.slice D3 l3 e3],.int .i64 E2]) (results_cct (cs:=[.string rn,.slice A1 n1 c1,.slice Ak nk ck,.slice B3 m3 d3]) (ds:=[.string on,.slice A2 n2 c2,.slice Al nl cl,.slice D3 l3 e3]) rfl _ _ g5 g6 _ _ _ rfl rfl rfl q1 q2 Tryz.underlying32 rfl (by kernel_rfl) Tryz.underlying32 rfl (by kernel_rfl)) rfl ⟨by rw[hS];exact ⟨λh=>by (have h:E2=0:=h);subst h;exact ⟨_,_,rfl,q4 HO1.out,q4 HO2.out⟩,λ_=>⟨_,_,_,_,_,_,_,_,_,_,_,_,_,_,_,_,_,_,_,_,rfl⟩⟩,q3⟩
 ·have q0:(E1 != 0)=true:=by simpa using h0
  obtain ⟨LTKZ,z0,z1,z2,z3⟩:=KZ.out.ats4
  have fz0:=KZ.out.fz 0
  have fz1:=KZ.out.fz 1
  have fz2:=KZ.out.fz 2
  have fz3:=KZ.out.fz 3
  obtain ⟨LTKY,y0,y1,y2,y3⟩:=KY.out.ats4
  have fy0:=KY.out.fz 0
  have fy1:=KY.out.fz 1
  have fy2:=KY.out.fz 2
  have fy3:=KY.out.fz 3
  have hne:=NEg5_g6.out
  go_wp2
  all_goals (try (exfalso;go_light;simp_all;done))
  have hS:sumsS x i rows orows=(E1,[],[]):=by rw[sumsS,HS1.out,if_pos (by simpa using h0)]
  obtain ⟨q1,q2,q3,q4⟩:=sums_fin KZ.out KY.out rfl rfl NEg5_g6.out HGg5.out HGg6.out LHC7.out (.string ⟨#[]⟩) (.slice none 0 0) (.slice none 0 0) (.slice none 0 0) (.string ⟨#[]⟩) (.slice none 0 0) (.slice none 0 0) (.slice none 0 0) rfl
  exact bodyPost_ret (v:=.tuple #[.agg #[.string ⟨#[]⟩,.slice none 0 0,.slice none 0 0,.slice none 0 0],.agg #[.string ⟨#[]⟩,.slice none 0 0,.slice none 0 0,.slice none 0 0],.int .i64 E1]) (results_cct (cs:=[.string ⟨#[]⟩,.slice none 0 0,.slice none 0 0,.slice none 0 0]) (ds:=[.string ⟨#[]⟩,.slice none 0 0,.slice none 0 0,.slice none 0 0]) rfl _ _ g5 g6 _ _ _ rfl rfl rfl q1 q2 Tryz.underlying32 rfl (by kernel_rfl) Tryz.underlying32 rfl (by kernel_rfl)) rfl ⟨by rw[hS];exact ⟨λh=>absurd h h0,λ_=>⟨_,_,_,_,_,_,_,_,_,_,_,_,_,_,_,_,_,_,_,_,rfl⟩⟩,q3⟩
end Go.Proofs.YtggejcekmehocaaGreatDoor
