/-
  scalar.Eval: it returns evalS. (Printed by gen_eval.py.)
-/
import Derived.Test.YtggejcekmehocaaGreatDoorGat
import Derived.Test.YtggejcekmehocaaGreatDoorGac
namespace Go.Proofs.YtggejcekmehocaaGreatDoor
set_option maxHeartbeats 40000000
set_option maxRecDepth 100000
open Go.RowKit
set_option linter.unusedSimpArgs false
set_option linter.unusedVariables false
structure VSt (T:TypeId) (w wr:World) (st:List Val) (d:Nat) (A:Option Addr) (c:Nat):Prop where
 stk:Stk w.heap.size wr T A c st
 len:st.length=d
 below:Below w.heap.size w wr
theorem VSt.keep {T:TypeId}{w wr w':World}{st:List Val}{d:Nat}{A:Option Addr}{c:Nat}(h:VSt T w wr st d A c)(hb:Below wr.heap.size wr w'):VSt T w w' st d A c:=
 ⟨h.stk.keep hb,h.len,aa h.below hb⟩
theorem Zr.grown {w w':World}{g b:Nat}(h:Zr w g)(hb:w.grownBy w' (some b))(hne:g≠b):Zr w' g:=by
 have hbl:=hb.block g h.lt (λe=>hne (Option.some.inj e))
 have c: ∀o,w'.cell? ⟨g,o,none⟩=w.cell? ⟨g,o,none⟩:=λo=>World.cell?_of_block hbl
 have f: ∀o,w'.frozen? ⟨g,o,none⟩=w.frozen? ⟨g,o,none⟩:=λo=>World.frozen?_of_block hbl
 exact ⟨(c 0).trans h.c0,(c 1).trans h.c1,(c 2).trans h.c2,(f 0).trans h.f0,(f 1).trans h.f1,(f 2).trans h.f2,by have:=h.lt;have:=hb.size;omega⟩
theorem Zr.drew {w:World}{g:Nat}(h:Zr w g):Zr w.drew g:=⟨h.c0,h.c1,h.c2,h.f0,h.f1,h.f2,h.lt⟩
theorem Bw {w:World}{b:Nat}{cols:List Col}{row:List Val}{name:ByteArray}(h:nR w b (pairs cols row))(hl:cols.length=row.length)(hi:0<=index cols name){v:Val}(hv:row.getD (index cols name).toNat aW=v):
  (Instr.lookup 159 (.map (some b)) (.string name) false).run Tryz.prog w=.ok (.agg #[.int .i64 v.kind,.int .i64 v.num,.string v.str]) w:=by
 have hz:(zeroValue 74).run Tryz.prog w=.ok (.agg #[.int .i64 0,.int .i64 0,.string ⟨#[]⟩]) w:=by kernel_rfl
 have h:=(EY (P:=Tryz.prog) Tryz.underlying159 Tryz.underlying9 h name _ hz).2
 rw[MB hl hi,hv,Option.getD_some]at h
 exact h
theorem nR.drew {w:World}{b:Nat}{es:List (ByteArray×Value)}(h:nR w b es):nR w.drew b es:=h
theorem Lu (w:World)(A:Option Addr)(n c:Nat)(es:List Node)(hx:In w A n c es)(hw:Words w)(A1:Option Addr)(n1 c1:Nat)(cols:List Col)(hc:In w A1 n1 c1 cols)(A3:Option Addr)(n3 c3:Nat)(row:List Val)(hr:In w A3 n3 c3 row)(A2:Option Addr)(n2 c2:Nat)(zs:List Zone)(hz:In w A2 n2 c2 zs):
  Calls Tryz.prog 103 #[.slice A n c,.slice A1 n1 c1,.slice A3 n3 c3,.slice A2 n2 c2] w λe w'=>e=.returned (.tuple #[.agg (iI es cols row zs).2.cells.toArray,.int .i64 (iI es cols row zs).1])/\Below w.heap.size w w':=by
 have h63:=hx.le
 have h64:=hc.le
 have Yt:=hr.le
 obtain ⟨i0,hi,hz0,hz1,hz2⟩:=info_parts mR
 have hmm:=@run_makeMap Tryz.prog
 go_enter Tryz.func103,Tryz.ntmps103
 go_wp2_with fail
 refine (Fb _ _ _ _ es (hx.below af) (hw.below af) _ _ _ cols (hc.below af) _ _ _ zs (hz.below af)).mono ?_
 rintro e w1 ⟨rfl,hb1⟩
 have Z:=hide ((Zr.made w 74).below hb1)
 have hbb:=aa af hb1
 clear hb1
 obtain ⟨te,ht⟩: ∃q,cK es cols zs=q:=⟨_,rfl⟩
 obtain ⟨te,tk⟩:=te
 have HT:=hide ht
 rw[ht]
 clear ht
 by_cases h0:¬te=0
 ·have HN:Hid (iI es cols row zs=(te,aW)):=hide (by rw[iI,HT.out,if_pos h0])
  have q:(te != 0)=true:=by simpa using h0
  obtain ⟨z0,z1,z2,f0,f1,f2,_⟩:=Z.out
  clear h0
  go_wp2
  refine bodyPost_ret (v:=.tuple #[.agg (Val.cells aW).toArray,.int .i64 (te)]) (aA (cs:=Val.cells aW) rfl _ _ w.heap.size _ _ rfl rfl (bC z0 z1 z2) Tryz.underlying74 rfl (by kernel_rfl)) rfl ⟨by rw[HN.out],au hbb (Nat.le_refl _) _ _ _⟩
 replace h0:te=0:=by omega
 subst h0
 go_wp2_with fail
 refine (uG _ _ _ _ _ _ _ cols row (hc.below hbb) (hr.below hbb)).mono ?_
 rintro e w2 ⟨rfl,hb2⟩
 have Z:=hide (Z.out.below hb2)
 have hbb:=aa hbb hb2
 clear hb2
 by_cases h1:¬aS cols row=0
 ·have HN:Hid (iI es cols row zs=(aS cols row,aW)):=hide (by rw[iI,HT.out,if_neg (by simp),if_pos h1])
  have q:(aS cols row != 0)=true:=by simpa using h1
  obtain ⟨z0,z1,z2,f0,f1,f2,_⟩:=Z.out
  clear h1
  go_wp2
  refine bodyPost_ret (v:=.tuple #[.agg (Val.cells aW).toArray,.int .i64 (aS cols row)]) (aA (cs:=Val.cells aW) rfl _ _ w.heap.size _ _ rfl rfl (bC z0 z1 z2) Tryz.underlying74 rfl (by kernel_rfl)) rfl ⟨by rw[HN.out],au hbb (Nat.le_refl _) _ _ _⟩
 replace h1:aS cols row=0:=by omega
 have U8:w.heap.size<w2.heap.size:=Z.out.lt
 have HR:=hide h1
 have HN:Hid (iI es cols row zs=(0,jg cols row zs [] es)):=hide (by rw[iI,HT.out,if_neg (by simp),if_neg (by simp[h1])])
 have hnn:n3=n1:=by have:=Dh h1;rw[hc.len,hr.len]at this;exact this
 subst hnn
 have HS:=hide (Run.short (row:=row) (es:=es) (cols:=cols) (zs:=zs) (by rw[HT.out]))
 have Qy:=hide (Run.start (row:=row) (es:=es) (cols:=cols) (zs:=zs) (by rw[HT.out]))
 have Mj:n<=256:=by have:=HS.out.1;rw[hx.len]at this;exact this
 rw[h1]
 clear h1
 go_wp2
 obtain ⟨w3,hw3⟩: ∃w3,w3=w2.alloc (.map #[] 0):=⟨_,rfl⟩
 have M:Hid (nR w3 w2.heap.size []):=hide (by rw[hw3];exact nR.made w2)
 have Z:=hide (Z.out.below (show Below w2.heap.size w2 w3 by rw[hw3];exact af))
 have hbb:Below w.heap.size w w3:=by rw[hw3];exact aa hbb af
 have hzn:Hid (¬w.heap.size=w2.heap.size):=hide (by have h1:=Z.out.lt;rw[hw3]at h1;have:=M.out.lt;have h3:w.heap.size<w2.heap.size:=U8;omega)
 obtain ⟨gm,hgm⟩: ∃gm,w2.heap.size=gm:=⟨_,rfl⟩
 rw[hgm]at M hzn
 rw[hgm]
 have Us:Hid (w.heap.size<=gm):=hide (by have h3:w.heap.size<w2.heap.size:=U8;omega)
 rw[<-hw3]
 clear hw3 hgm
 go_loopw [46] (λi wr=> ∃k:Nat,k<=n3/\i=.int .i64 k/\nR wr gm (pairs (cols.take k) (row.take k))/\Zr wr w.heap.size/\Below w.heap.size w wr) (λi _=>n3-(intOf i).toNat)
 case atStart=>exact ⟨0,Nat.zero_le _,rfl,by simpa[pairs] using M.out,Z.out,hbb⟩
 case round=>
  obtain ⟨k,hk,rfl,hm,Ru,hb⟩:=hrel
  have M:=hide hm
  have Z:=hide Ru
  clear hm Ru
  by_cases hlt:k<n3
  ·obtain ⟨b,off,x,rfl,hB,HX,f0,f1,f2,hok⟩:=(hc.below hb).col hlt
   obtain ⟨b',off',v,rfl,hB',HV,v0,v1,v2,X7⟩:=(hr.below hb).val hlt
   have hbz:=hb.size
   have XJ:gm<wr.heap.size:=M.out.lt
   have hzl:=Z.out.lt
   have xR:Hid (j5 x.name (pairs (cols.take k) (row.take k))=none):=hide (MC HS.out.2 (by rw[hc.len,hr.len]) (dS HX.out).1)
   have SQ:Hid (pairs (cols.take (k+1)) (row.take (k+1))=pairs (cols.take k) (row.take k)++[(x.name,.agg v.cells.toArray)]):=hide (GJ (by rw[hc.len,hr.len]) (dS HX.out).1 (dS HV.out).1)
   have k0:(0:Int)<=(k:Int):=by omega
   have k1:(k:Int)<(n3:Int):=by omega
   go_wp2
   obtain ⟨v5,hv5⟩: ∃v5,v5=wr.alloc (.cells #[.string x.name,.int .i64 x.kind,.bool x.nullable] 82):=⟨_,rfl⟩
   have c0:v5.cell? ⟨wr.heap.size,0,none⟩=some (.string x.name):=by rw[hv5];simp[go_sem]
   have hv:Below wr.heap.size wr v5:=by rw[hv5];exact af
   rw[<-hv5]
   clear hv5 f0 f1 f2
   have v0:=ah hv hB' v0
   have v1:=ah hv hB' v1
   have v2:=ah hv hB' v2
   have M:=hide (M.out.below hv)
   have Z:=hide (Z.out.below hv)
   have hb:=aa hb hv
   have hgl:gm<v5.heap.size:=M.out.lt
   have hcl:wr.heap.size<v5.heap.size:=lt_of_cell c0
   have hvl:b'<v5.heap.size:=lt_of_cell v0
   clear hv
   obtain ⟨w6,hrun,ZU,Np⟩:=AP (P:=Tryz.prog) Tryz.underlying159 Tryz.underlying9 (show nR v5.drew gm (pairs (cols.take k) (row.take k)) from M.out) x.name (.agg #[.int .i64 v.kind,.int .i64 v.num,.string v.str]) xR.out
   have hbl: ∀g o,g<v5.heap.size->g≠gm->w6.cell? ⟨g,o,none⟩=v5.cell? ⟨g,o,none⟩:=λg o hg hne=>World.cell?_of_block (Np.block g hg (λe=>hne (Option.some.inj e)))
   have hne1:¬wr.heap.size=gm:=by have:=XJ;omega
   have hne2:¬b'=gm:=by have h:=Us.out;have h2:=(hr.val hlt);obtain ⟨b2,o2,v2,e2,hb2,_⟩:=h2;injection e2 with e2;injection e2 with e2 e3;omega
   have c0':=(hbl _ 0 hcl hne1).trans c0
   have v0':=(hbl _ (off'+k*3) hvl hne2).trans v0
   have v1':=(hbl _ (off'+k*3+1) hvl hne2).trans v1
   have RG:=(hbl _ (off'+k*3+2) hvl hne2).trans v2
   have Z6:=hide ((Z.out.drew.grown Np hzn.out:Zr w6 w.heap.size))
   have hb6:Below w.heap.size w w6:=hb.drew.grown Np (by simp;omega) (λg hg=>by injection hg with hg;subst hg;exact Us.out)
   clear hbl
   go_region_held3 (λV=>V.cell? ⟨wr.heap.size,0,none⟩=some (.string x.name)/\V.cell? ⟨b',off'+k*3,none⟩=some (.int .i64 v.kind)/\V.cell? ⟨b',off'+k*3+1,none⟩=some (.int .i64 v.num)/\V.cell? ⟨b',off'+k*3+2,none⟩=some (.string v.str)) (first|exact ⟨c0,v0,v1,v2⟩|exact ⟨c0',v0',v1',RG⟩) (first|fail)
   go_wp2
   go_roundw
   case rel=>exact ⟨k+1,by omega,by go_num,by rw[SQ.out];exact ZU,Z6.out,hb6⟩
   case measure=>simp[intOf];omega
  ·have M:=hide (show nR wr gm (pairs cols row) by have h:=M.out;rw[List.take_of_length_le (by rw[hc.len];omega),List.take_of_length_le (by rw[hr.len];omega)]at h;exact h)
   go_wp2
   clear hlt hk
   obtain ⟨w5,Z4⟩: ∃w5,w5=wr:=⟨_,rfl⟩
   subst Z4
   have hbW:=hb
   clear hb
   go_loopw [17,61] (λv i wv=> ∃(k d:Nat) (hs:List Int) (ks:List Kd) (vs:List Val) (B:Option Addr) (cb:Nat),k<=n/\d<=k/\i=.int .i64 k/\v=.slice B d cb/\Run cols row zs es k d hs ks vs/\VSt 74 w5 wv vs d B cb) (λ_ i _=>n-(intOf i).toNat)
   case atStart=>exact ⟨0,0,[],[],[],none,0,Nat.zero_le _,Nat.zero_le _,rfl,rfl,Qy.out,⟨Stk.nil_ _ _ _,rfl,Below.refl _ _⟩⟩
   case round=>
    obtain ⟨k,d,hs,ks,vs,B,cb,hk,hdk,rfl,rfl,hrn,hst⟩:=hrel
    have HQ:=hide hrn
    have VS:=hide hst
    clear hrn hst
    by_cases hlt:k<n
    ·obtain ⟨b,off,x,rfl,hB,HX,f0,f1,f2,f3,f4,f5,hok⟩:=(hx.below (aa hbW VS.out.below)).node hlt
     have NA:=hide (bK.made wr x)
     obtain ⟨m,r,hs',ks',rfl,UI,zf⟩:=Run.step HS.out.2 HR.out HQ.out HX.out
     have SP:=hide UI
     have wH:=hide zf
     clear UI zf hok
     go_wp2_with fail
     refine (og x _).mono ?_
     rintro e w2 ⟨rfl,hb2⟩
     rw[SP.out.ar]
     have NV:=hide (NA.out.below hb2 (by simp))
     have oP:=hide ((VS.out.keep af).keep hb2)
     have z2:wr.heap.size<w2.heap.size:=by have:=hb2.size;simp at this;omega
     obtain ⟨g0,g1,g2,g3,g4,g5⟩:=NV.out
     have r0:(0:Int)<=(r:Int):=by omega
     have r2:(r:Int)<=(r:Int)+(m:Int):=by omega
     clear hb2 f0 f1 f2 f3 f4 f5
     rcases pV oP.out.stk oP.out.len with ⟨rfl,hm0⟩|⟨hcb,g,rfl,hin⟩
     ·by_cases o1:x.op=1
      ·have eu:Hid (In w2 B m 0 (vs.drop r)):=hide (by rw[List.drop_eq_nil_of_le (by rw[oP.out.len];omega),hm0];exact Sl.empty (by omega) (λ_=>rfl))
       clear hm0
       have H1:=hide o1
       clear o1
       go_wp2_with fail
       refine (iK zs x SP.out.sh m SP.out.ar _ _ _ (vs.drop r) eu.out).mono ?_
       rintro e w3 ⟨rfl,hb3⟩
       have N3:=hide (bK.below NV.out hb3 z2)
       obtain ⟨p0,p1,p2,p3,p4,p5⟩:=N3.out
       have Cg:=hide (oP.out.keep hb3)
       have eu:=hide (eu.out.below hb3)
       have hz3:wr.heap.size<w3.heap.size:=Nat.lt_of_lt_of_le z2 hb3.size
       have hgv:Hid (w2.heap.size<=w3.heap.size):=hide hb3.size
       clear hb3
       have q1:(x.op==1)=true:=by simpa using H1.out
       obtain ⟨sv,hsv⟩: ∃q,Nr zs x (vs.drop r)=q:=⟨_,rfl⟩
       obtain ⟨sk,sn,ss⟩:=sv
       have S9:=hide hsv
       rw[hsv]
       simp only[Val.cells]
       clear hsv
       obtain ⟨v0,hv0⟩: ∃v0,v0=w3.alloc (.cells #[.int .i64 sk,.int .i64 sn,.string ss] 74):=⟨_,rfl⟩
       have y0:v0.cell? ⟨w3.heap.size,0,none⟩=some (.int .i64 sk):=by rw[hv0];simp[go_sem]
       have y1:v0.cell? ⟨w3.heap.size,1,none⟩=some (.int .i64 sn):=by rw[hv0];simp[go_sem]
       have y2:v0.cell? ⟨w3.heap.size,2,none⟩=some (.string ss):=by rw[hv0];simp[go_sem]
       have F0:v0.frozen? ⟨w3.heap.size,0,none⟩=false:=by rw[hv0];simp[go_sem]
       have F1:v0.frozen? ⟨w3.heap.size,1,none⟩=false:=by rw[hv0];simp[go_sem]
       have F2:v0.frozen? ⟨w3.heap.size,2,none⟩=false:=by rw[hv0];simp[go_sem]
       have hv:Below w3.heap.size w3 v0:=by rw[hv0];exact af
       obtain ⟨bv,hbv⟩: ∃q,row.getD (index cols x.name).toNat aW=q:=⟨_,rfl⟩
       obtain ⟨bk,bn,bs⟩:=bv
       have fo:Hid (je cols row zs x (vs.drop r)=⟨bk,bn,bs⟩):=hide (by rw[je,if_pos H1.out];exact hbv)
       have FM:Hid (Flat.ok (α:=Val) ⟨bk,bn,bs⟩):=hide (by have h:=jw SP.out.new;rw[fo.out]at h;exact h)
       have Qq:Hid ((Instr.lookup 159 (.map (some gm)) (.string x.name) false).run Tryz.prog v0=.ok (.agg #[.int .i64 bk,.int .i64 bn,.string bs]) v0):=hide (by
        exact Bw ((M.out.below Cg.out.below).below hv) (by rw[hc.len,hr.len]) (SP.out.col H1.out).2.1 hbv)
       clear hbv
       go_upto_region 21 with (fail)
       rw[<-hv0]
       clear hv0 p0 p1 p2 p3 p4 p5
       obtain ⟨p0,p1,p2,p3,p4,p5⟩:=bK.below N3.out hv hz3
       have N0:=hide (bK.below N3.out hv hz3)
       have eu:=hide (eu.out.below hv)
       have hgl:w3.heap.size<v0.heap.size:=lt_of_cell y0
       have hz0':wr.heap.size<v0.heap.size:=Nat.lt_of_lt_of_le hz3 hv.size
       have Cb:=hide hv
       obtain ⟨gv,iQ⟩: ∃gv,w3.heap.size=gv:=⟨_,rfl⟩
       rw[iQ]at y0 y1 y2 F0 F1 F2 hgl
       rw[iQ]
       have pO:=hide iQ
       have Rs:¬wr.heap.size=gv:=by omega
       clear hv iQ
       have Mi:=Qq.out
       go_wp2
       obtain ⟨w8,hw8⟩: ∃w8,w8=((v0.setCell ⟨gv,0,none⟩ (.int .i64 bk)).setCell ⟨gv,1,none⟩ (.int .i64 bn)).setCell ⟨gv,2,none⟩ (.string bs):=⟨_,rfl⟩
       have S:=bC (v0:=.int .i64 bk) (v1:=.int .i64 bn) (v2:=.string bs) y0 y1 y2
       rw[<-hw8]at S
       rw[<-hw8]
       have oZ:Hid (VSt 74 w5 w8 vs (r+m) B r):=hide (Cg.out.keep (by rw[hw8];exact au Cb.out (Nat.le_of_eq pO.out) _ _ _))
       have y0:=S 0 _ rfl
       have y1:=S 1 _ rfl
       have y2:=S 2 _ rfl
       clear hw8 S p0 p1 p2 p3 p4 p5 F0 F1 F2
       clear Mi
       have gF:Hid (r<=vs.length):=hide (by rw[oZ.out.len];omega)
       have hszW:w5.heap.size<=w8.heap.size:=oZ.out.below.size
       have kU:gv<w8.heap.size:=lt_of_cell y0
       have dI:Hid ((Value.slice B r r).ownBlock≠some gv):=hide (λe=>by have hq:=oP.out.stk.take gF.out;have hl:(vs.take r).length=r:=List.length_take_of_le gF.out;have:=(hq.blk gv (hl.symm▸e)).1;have:=hgv.out;have:=pO.out;omega)
       have r1:(r:Int)<=(r:Int):=by have h1:=oP.out.stk.cap.1;have h2:=oP.out.len;omega
       go_wp2
       go_region_held3 (λV=>V.cell? ⟨gv,0,none⟩=some (.int .i64 bk)/\V.cell? ⟨gv,1,none⟩=some (.int .i64 bn)/\V.cell? ⟨gv,2,none⟩=some (.string bs)) (first|exact ⟨y0,y1,y2⟩|exact ⟨ah ((Below.refl _ _).drew.alloc (Nat.le_refl _) _) kU y0,ah ((Below.refl _ _).drew.alloc (Nat.le_refl _) _) kU y1,ah ((Below.refl _ _).drew.alloc (Nat.le_refl _) _) kU y2⟩|exact ⟨(World.cell?_of_block (gy _ (by simp;omega) dI.out)).trans (ah ((Below.refl _ _).drew.alloc (Nat.le_refl _) _) kU y0),(World.cell?_of_block (gy _ (by simp;omega) dI.out)).trans (ah ((Below.refl _ _).drew.alloc (Nat.le_refl _) _) kU y1),(World.cell?_of_block (gy _ (by simp;omega) dI.out)).trans (ah ((Below.refl _ _).drew.alloc (Nat.le_refl _) _) kU y2)⟩) (first|(refine gq (α:=Val) _ rfl (.tmp 102) (.tmp 104) 59 rfl w5.heap.size 74 i0 _ 32 Tryz.underlying59 hi hz0 hz1 hz2 rfl (by decide) B r r vs (oZ.out.stk.keep ((Below.refl _ _).drew.alloc (Nat.le_refl _) _)) gF.out rfl ⟨bk,bn,bs⟩ FM.out w8.heap.size rfl (bX _ _ _ _ rfl) (by omega) (by simp;omega) ?_;intro A' c' w9 tT gP gy;have HP:Hid (VSt 74 w5 w9 (vs.take r++[⟨bk,bn,bs⟩]) (r+1) A' c'):=hide ⟨tT,(by rw[List.length_append,List.length_take,Nat.min_eq_left gF.out];rfl),(oZ.out.below.drew.alloc (by simp;omega) _).trans gP⟩))
       go_wp2
       go_roundw
       case rel=>exact ⟨k+1,r+1,hs',ks',_,A',c',by omega,by omega,by go_num,rfl,by rw[<-fo.out];exact wH.out,HP.out⟩
       case measure=>simp[intOf];omega
      ·cases hsp:lW x.op
       ·obtain ⟨an,hany⟩: ∃q,((vs.drop r).any λv=>v.kind==0)=q:=⟨_,rfl⟩
        cases an
        ·have eu:Hid (In w2 B m 0 (vs.drop r)):=hide (by rw[List.drop_eq_nil_of_le (by rw[oP.out.len];omega),hm0];exact Sl.empty (by omega) (λ_=>rfl))
         clear hm0
         go_wp2_with fail
         refine (iK zs x SP.out.sh m SP.out.ar _ _ _ (vs.drop r) eu.out).mono ?_
         rintro e w3 ⟨rfl,hb3⟩
         have N3:=hide (bK.below NV.out hb3 z2)
         obtain ⟨p0,p1,p2,p3,p4,p5⟩:=N3.out
         have Cg:=hide (oP.out.keep hb3)
         have eu:=hide (eu.out.below hb3)
         have hz3:wr.heap.size<w3.heap.size:=Nat.lt_of_lt_of_le z2 hb3.size
         have hgv:Hid (w2.heap.size<=w3.heap.size):=hide hb3.size
         clear hb3
         have q1:(x.op==1)=false:=by simpa using o1
         rw[x9 hsp,hsp]
         simp only[aW,Val.cells]
         obtain ⟨v0,hv0⟩: ∃v0,v0=w3.alloc (.cells #[.int .i64 0,.int .i64 0,.string ⟨#[]⟩] 74):=⟨_,rfl⟩
         have y0:v0.cell? ⟨w3.heap.size,0,none⟩=some (.int .i64 0):=by rw[hv0];simp[go_sem]
         have y1:v0.cell? ⟨w3.heap.size,1,none⟩=some (.int .i64 0):=by rw[hv0];simp[go_sem]
         have y2:v0.cell? ⟨w3.heap.size,2,none⟩=some (.string ⟨#[]⟩):=by rw[hv0];simp[go_sem]
         have F0:v0.frozen? ⟨w3.heap.size,0,none⟩=false:=by rw[hv0];simp[go_sem]
         have F1:v0.frozen? ⟨w3.heap.size,1,none⟩=false:=by rw[hv0];simp[go_sem]
         have F2:v0.frozen? ⟨w3.heap.size,2,none⟩=false:=by rw[hv0];simp[go_sem]
         have hv:Below w3.heap.size w3 v0:=by rw[hv0];exact af
         go_upto_region 22 with (fail)
         rw[<-hv0]
         clear hv0 p0 p1 p2 p3 p4 p5
         obtain ⟨p0,p1,p2,p3,p4,p5⟩:=bK.below N3.out hv hz3
         have N0:=hide (bK.below N3.out hv hz3)
         have eu:=hide (eu.out.below hv)
         have hgl:w3.heap.size<v0.heap.size:=lt_of_cell y0
         have hz0':wr.heap.size<v0.heap.size:=Nat.lt_of_lt_of_le hz3 hv.size
         have Cb:=hide hv
         obtain ⟨gv,iQ⟩: ∃gv,w3.heap.size=gv:=⟨_,rfl⟩
         rw[iQ]at y0 y1 y2 F0 F1 F2 hgl
         rw[iQ]
         have pO:=hide iQ
         have Rs:¬wr.heap.size=gv:=by omega
         clear hv iQ
         go_wp2_with fail
         refine (jB _ _ _ _ (vs.drop r) eu.out SP.out.val).mono ?_
         rintro e w4 ⟨rfl,hb4⟩
         have eu:=hide (eu.out.below hb4)
         obtain ⟨p0,p1,p2,p3,p4,p5⟩:=bK.below N0.out hb4 hz0'
         have XO:wr.heap.size<w4.heap.size:=Nat.lt_of_lt_of_le hz0' hb4.size
         have y0:=ah hb4 hgl y0
         have y1:=ah hb4 hgl y1
         have y2:=ah hb4 hgl y2
         have F0:=((ai hb4).2 _ _ hgl).trans F0
         have F1:=((ai hb4).2 _ _ hgl).trans F1
         have F2:=((ai hb4).2 _ _ hgl).trans F2
         have IG:=hide (aa Cb.out hb4)
         have tO:gv<w4.heap.size:=lt_of_cell y0
         clear hb4
         have hnn: ∀v∈vs.drop r,v.kind≠0:=by
          intro v hv h0
          have:=List.any_eq_false.1 hany v hv
          simp[h0]at this
         have SK:=hide hnn
         have hany':=hany
         rw[hany]
         clear hany hany' hnn
         obtain ⟨bv,hbv⟩: ∃q,eO zs x (vs.drop r)=q:=⟨_,rfl⟩
         obtain ⟨bk,bn,bs⟩:=bv
         have SN:=hide hbv
         clear hbv
         have fo:Hid (je cols row zs x (vs.drop r)=⟨bk,bn,bs⟩):=hide (by rw[jC o1];exact SN.out)
         have FM:Hid (Flat.ok (α:=Val) ⟨bk,bn,bs⟩):=hide (by have h:=jw SP.out.new;rw[fo.out]at h;exact h)
         go_wp2_with fail
         refine (Bh zs x SP.out.sh o1 SP.out.n21 hsp m SP.out.ar _ _ _ (vs.drop r) eu.out SP.out.val SK.out (λh2=>SP.out.bool h2 SK.out) _ _ _ (hz.below (aa hbW (aa Cg.out.below IG.out)))).mono ?_
         rintro e w6 ⟨rfl,hb6⟩
         rw[SN.out]
         simp only[Val.cells]
         have y0:=ah hb6 tO y0
         have y1:=ah hb6 tO y1
         have y2:=ah hb6 tO y2
         have F0:=((ai hb6).2 _ _ tO).trans F0
         have F1:=((ai hb6).2 _ _ tO).trans F1
         have F2:=((ai hb6).2 _ _ tO).trans F2
         have WM:=hide (aa IG.out hb6)
         clear hb6
         go_wp2
         obtain ⟨w8,hw8⟩: ∃w8,w8=((w6.setCell ⟨gv,0,none⟩ (.int .i64 bk)).setCell ⟨gv,1,none⟩ (.int .i64 bn)).setCell ⟨gv,2,none⟩ (.string bs):=⟨_,rfl⟩
         have S:=bC (v0:=.int .i64 bk) (v1:=.int .i64 bn) (v2:=.string bs) y0 y1 y2
         rw[<-hw8]at S
         rw[<-hw8]
         have oZ:Hid (VSt 74 w5 w8 vs (r+m) B r):=hide (Cg.out.keep (by rw[hw8];exact au WM.out (Nat.le_of_eq pO.out) _ _ _))
         have y0:=S 0 _ rfl
         have y1:=S 1 _ rfl
         have y2:=S 2 _ rfl
         clear hw8 S p0 p1 p2 p3 p4 p5 F0 F1 F2
         have gF:Hid (r<=vs.length):=hide (by rw[oZ.out.len];omega)
         have hszW:w5.heap.size<=w8.heap.size:=oZ.out.below.size
         have kU:gv<w8.heap.size:=lt_of_cell y0
         have dI:Hid ((Value.slice B r r).ownBlock≠some gv):=hide (λe=>by have hq:=oP.out.stk.take gF.out;have hl:(vs.take r).length=r:=List.length_take_of_le gF.out;have:=(hq.blk gv (hl.symm▸e)).1;have:=hgv.out;have:=pO.out;omega)
         have r1:(r:Int)<=(r:Int):=by have h1:=oP.out.stk.cap.1;have h2:=oP.out.len;omega
         go_wp2
         go_region_held3 (λV=>V.cell? ⟨gv,0,none⟩=some (.int .i64 bk)/\V.cell? ⟨gv,1,none⟩=some (.int .i64 bn)/\V.cell? ⟨gv,2,none⟩=some (.string bs)) (first|exact ⟨y0,y1,y2⟩|exact ⟨ah ((Below.refl _ _).drew.alloc (Nat.le_refl _) _) kU y0,ah ((Below.refl _ _).drew.alloc (Nat.le_refl _) _) kU y1,ah ((Below.refl _ _).drew.alloc (Nat.le_refl _) _) kU y2⟩|exact ⟨(World.cell?_of_block (gy _ (by simp;omega) dI.out)).trans (ah ((Below.refl _ _).drew.alloc (Nat.le_refl _) _) kU y0),(World.cell?_of_block (gy _ (by simp;omega) dI.out)).trans (ah ((Below.refl _ _).drew.alloc (Nat.le_refl _) _) kU y1),(World.cell?_of_block (gy _ (by simp;omega) dI.out)).trans (ah ((Below.refl _ _).drew.alloc (Nat.le_refl _) _) kU y2)⟩) (first|(refine gq (α:=Val) _ rfl (.tmp 102) (.tmp 104) 59 rfl w5.heap.size 74 i0 _ 32 Tryz.underlying59 hi hz0 hz1 hz2 rfl (by decide) B r r vs (oZ.out.stk.keep ((Below.refl _ _).drew.alloc (Nat.le_refl _) _)) gF.out rfl ⟨bk,bn,bs⟩ FM.out w8.heap.size rfl (bX _ _ _ _ rfl) (by omega) (by simp;omega) ?_;intro A' c' w9 tT gP gy;have HP:Hid (VSt 74 w5 w9 (vs.take r++[⟨bk,bn,bs⟩]) (r+1) A' c'):=hide ⟨tT,(by rw[List.length_append,List.length_take,Nat.min_eq_left gF.out];rfl),(oZ.out.below.drew.alloc (by simp;omega) _).trans gP⟩))
         go_wp2
         go_roundw
         case rel=>exact ⟨k+1,r+1,hs',ks',_,A',c',by omega,by omega,by go_num,rfl,by rw[<-fo.out];exact wH.out,HP.out⟩
         case measure=>simp[intOf];omega
        ·have eu:Hid (In w2 B m 0 (vs.drop r)):=hide (by rw[List.drop_eq_nil_of_le (by rw[oP.out.len];omega),hm0];exact Sl.empty (by omega) (λ_=>rfl))
         clear hm0
         go_wp2_with fail
         refine (iK zs x SP.out.sh m SP.out.ar _ _ _ (vs.drop r) eu.out).mono ?_
         rintro e w3 ⟨rfl,hb3⟩
         have N3:=hide (bK.below NV.out hb3 z2)
         obtain ⟨p0,p1,p2,p3,p4,p5⟩:=N3.out
         have Cg:=hide (oP.out.keep hb3)
         have eu:=hide (eu.out.below hb3)
         have hz3:wr.heap.size<w3.heap.size:=Nat.lt_of_lt_of_le z2 hb3.size
         have hgv:Hid (w2.heap.size<=w3.heap.size):=hide hb3.size
         clear hb3
         have q1:(x.op==1)=false:=by simpa using o1
         rw[x9 hsp,hsp]
         simp only[aW,Val.cells]
         obtain ⟨v0,hv0⟩: ∃v0,v0=w3.alloc (.cells #[.int .i64 0,.int .i64 0,.string ⟨#[]⟩] 74):=⟨_,rfl⟩
         have y0:v0.cell? ⟨w3.heap.size,0,none⟩=some (.int .i64 0):=by rw[hv0];simp[go_sem]
         have y1:v0.cell? ⟨w3.heap.size,1,none⟩=some (.int .i64 0):=by rw[hv0];simp[go_sem]
         have y2:v0.cell? ⟨w3.heap.size,2,none⟩=some (.string ⟨#[]⟩):=by rw[hv0];simp[go_sem]
         have F0:v0.frozen? ⟨w3.heap.size,0,none⟩=false:=by rw[hv0];simp[go_sem]
         have F1:v0.frozen? ⟨w3.heap.size,1,none⟩=false:=by rw[hv0];simp[go_sem]
         have F2:v0.frozen? ⟨w3.heap.size,2,none⟩=false:=by rw[hv0];simp[go_sem]
         have hv:Below w3.heap.size w3 v0:=by rw[hv0];exact af
         go_upto_region 22 with (fail)
         rw[<-hv0]
         clear hv0 p0 p1 p2 p3 p4 p5
         obtain ⟨p0,p1,p2,p3,p4,p5⟩:=bK.below N3.out hv hz3
         have N0:=hide (bK.below N3.out hv hz3)
         have eu:=hide (eu.out.below hv)
         have hgl:w3.heap.size<v0.heap.size:=lt_of_cell y0
         have hz0':wr.heap.size<v0.heap.size:=Nat.lt_of_lt_of_le hz3 hv.size
         have Cb:=hide hv
         obtain ⟨gv,iQ⟩: ∃gv,w3.heap.size=gv:=⟨_,rfl⟩
         rw[iQ]at y0 y1 y2 F0 F1 F2 hgl
         rw[iQ]
         have pO:=hide iQ
         have Rs:¬wr.heap.size=gv:=by omega
         clear hv iQ
         go_wp2_with fail
         refine (jB _ _ _ _ (vs.drop r) eu.out SP.out.val).mono ?_
         rintro e w4 ⟨rfl,hb4⟩
         have eu:=hide (eu.out.below hb4)
         obtain ⟨p0,p1,p2,p3,p4,p5⟩:=bK.below N0.out hb4 hz0'
         have XO:wr.heap.size<w4.heap.size:=Nat.lt_of_lt_of_le hz0' hb4.size
         have y0:=ah hb4 hgl y0
         have y1:=ah hb4 hgl y1
         have y2:=ah hb4 hgl y2
         have F0:=((ai hb4).2 _ _ hgl).trans F0
         have F1:=((ai hb4).2 _ _ hgl).trans F1
         have F2:=((ai hb4).2 _ _ hgl).trans F2
         have IG:=hide (aa Cb.out hb4)
         have tO:gv<w4.heap.size:=lt_of_cell y0
         clear hb4
         have Qj:Hid (je cols row zs x (vs.drop r)=aW):=hide (by rw[jC o1];exact EP SP.out.sh o1 SP.out.n21 hsp SP.out.ar (by rw[List.length_drop,oP.out.len];omega) hany)
         rw[hany]
         obtain ⟨bk,hbk⟩: ∃bk:Int,bk=0:=⟨_,rfl⟩
         obtain ⟨bn,hbn⟩: ∃bn:Int,bn=0:=⟨_,rfl⟩
         obtain ⟨bs,hbs⟩: ∃bs:ByteArray,bs=⟨#[]⟩:=⟨_,rfl⟩
         have fo:Hid (je cols row zs x (vs.drop r)=⟨bk,bn,bs⟩):=hide (by rw[Qj.out,hbk,hbn,hbs];rfl)
         have FM:Hid (Flat.ok (α:=Val) ⟨bk,bn,bs⟩):=hide (by have h:=jw SP.out.new;rw[fo.out]at h;exact h)
         have y0:w4.cell? ⟨gv,0,none⟩=some (.int .i64 bk):=by rw[hbk];exact y0
         have y1:w4.cell? ⟨gv,1,none⟩=some (.int .i64 bn):=by rw[hbn];exact y1
         have y2:w4.cell? ⟨gv,2,none⟩=some (.string bs):=by rw[hbs];exact y2
         clear hbk hbn hbs hany
         go_wp2
         obtain ⟨w8,hw8⟩: ∃w8,w4=w8:=⟨_,rfl⟩
         subst hw8
         have oZ:Hid (VSt 74 w5 w4 vs (r+m) B r):=hide (Cg.out.keep IG.out)
         clear p0 p1 p2 p3 p4 p5 F0 F1 F2
         have gF:Hid (r<=vs.length):=hide (by rw[oZ.out.len];omega)
         have hszW:w5.heap.size<=w4.heap.size:=oZ.out.below.size
         have kU:gv<w4.heap.size:=lt_of_cell y0
         have dI:Hid ((Value.slice B r r).ownBlock≠some gv):=hide (λe=>by have hq:=oP.out.stk.take gF.out;have hl:(vs.take r).length=r:=List.length_take_of_le gF.out;have:=(hq.blk gv (hl.symm▸e)).1;have:=hgv.out;have:=pO.out;omega)
         have r1:(r:Int)<=(r:Int):=by have h1:=oP.out.stk.cap.1;have h2:=oP.out.len;omega
         go_wp2
         go_region_held3 (λV=>V.cell? ⟨gv,0,none⟩=some (.int .i64 bk)/\V.cell? ⟨gv,1,none⟩=some (.int .i64 bn)/\V.cell? ⟨gv,2,none⟩=some (.string bs)) (first|exact ⟨y0,y1,y2⟩|exact ⟨ah ((Below.refl _ _).drew.alloc (Nat.le_refl _) _) kU y0,ah ((Below.refl _ _).drew.alloc (Nat.le_refl _) _) kU y1,ah ((Below.refl _ _).drew.alloc (Nat.le_refl _) _) kU y2⟩|exact ⟨(World.cell?_of_block (gy _ (by simp;omega) dI.out)).trans (ah ((Below.refl _ _).drew.alloc (Nat.le_refl _) _) kU y0),(World.cell?_of_block (gy _ (by simp;omega) dI.out)).trans (ah ((Below.refl _ _).drew.alloc (Nat.le_refl _) _) kU y1),(World.cell?_of_block (gy _ (by simp;omega) dI.out)).trans (ah ((Below.refl _ _).drew.alloc (Nat.le_refl _) _) kU y2)⟩) (first|(refine gq (α:=Val) _ rfl (.tmp 102) (.tmp 104) 59 rfl w5.heap.size 74 i0 _ 32 Tryz.underlying59 hi hz0 hz1 hz2 rfl (by decide) B r r vs (oZ.out.stk.keep ((Below.refl _ _).drew.alloc (Nat.le_refl _) _)) gF.out rfl ⟨bk,bn,bs⟩ FM.out w4.heap.size rfl (bX _ _ _ _ rfl) (by omega) (by simp;omega) ?_;intro A' c' w9 tT gP gy;have HP:Hid (VSt 74 w5 w9 (vs.take r++[⟨bk,bn,bs⟩]) (r+1) A' c'):=hide ⟨tT,(by rw[List.length_append,List.length_take,Nat.min_eq_left gF.out];rfl),(oZ.out.below.drew.alloc (by simp;omega) _).trans gP⟩))
         go_wp2
         go_roundw
         case rel=>exact ⟨k+1,r+1,hs',ks',_,A',c',by omega,by omega,by go_num,rfl,by rw[<-fo.out];exact wH.out,HP.out⟩
         case measure=>simp[intOf];omega
       ·have eu:Hid (In w2 B m 0 (vs.drop r)):=hide (by rw[List.drop_eq_nil_of_le (by rw[oP.out.len];omega),hm0];exact Sl.empty (by omega) (λ_=>rfl))
        clear hm0
        go_wp2_with fail
        refine (iK zs x SP.out.sh m SP.out.ar _ _ _ (vs.drop r) eu.out).mono ?_
        rintro e w3 ⟨rfl,hb3⟩
        have N3:=hide (bK.below NV.out hb3 z2)
        obtain ⟨p0,p1,p2,p3,p4,p5⟩:=N3.out
        have Cg:=hide (oP.out.keep hb3)
        have eu:=hide (eu.out.below hb3)
        have hz3:wr.heap.size<w3.heap.size:=Nat.lt_of_lt_of_le z2 hb3.size
        have hgv:Hid (w2.heap.size<=w3.heap.size):=hide hb3.size
        clear hb3
        have q1:(x.op==1)=false:=by simpa using o1
        obtain ⟨sv,hsv⟩: ∃q,Nr zs x (vs.drop r)=q:=⟨_,rfl⟩
        obtain ⟨bk,bn,bs⟩:=sv
        have S9:=hide hsv
        rw[hsv]
        simp only[Val.cells]
        clear hsv
        obtain ⟨v0,hv0⟩: ∃v0,v0=w3.alloc (.cells #[.int .i64 bk,.int .i64 bn,.string bs] 74):=⟨_,rfl⟩
        have y0:v0.cell? ⟨w3.heap.size,0,none⟩=some (.int .i64 bk):=by rw[hv0];simp[go_sem]
        have y1:v0.cell? ⟨w3.heap.size,1,none⟩=some (.int .i64 bn):=by rw[hv0];simp[go_sem]
        have y2:v0.cell? ⟨w3.heap.size,2,none⟩=some (.string bs):=by rw[hv0];simp[go_sem]
        have F0:v0.frozen? ⟨w3.heap.size,0,none⟩=false:=by rw[hv0];simp[go_sem]
        have F1:v0.frozen? ⟨w3.heap.size,1,none⟩=false:=by rw[hv0];simp[go_sem]
        have F2:v0.frozen? ⟨w3.heap.size,2,none⟩=false:=by rw[hv0];simp[go_sem]
        have hv:Below w3.heap.size w3 v0:=by rw[hv0];exact af
        have fo:Hid (je cols row zs x (vs.drop r)=⟨bk,bn,bs⟩):=hide (by rw[jC o1,<-xm hsp,S9.out])
        have FM:Hid (Flat.ok (α:=Val) ⟨bk,bn,bs⟩):=hide (by have h:=jw SP.out.new;rw[fo.out]at h;exact h)
        rw[hsp]
        go_upto_region 22 with (fail)
        rw[<-hv0]
        clear hv0 p0 p1 p2 p3 p4 p5
        obtain ⟨p0,p1,p2,p3,p4,p5⟩:=bK.below N3.out hv hz3
        have N0:=hide (bK.below N3.out hv hz3)
        have eu:=hide (eu.out.below hv)
        have hgl:w3.heap.size<v0.heap.size:=lt_of_cell y0
        have hz0':wr.heap.size<v0.heap.size:=Nat.lt_of_lt_of_le hz3 hv.size
        have Cb:=hide hv
        obtain ⟨gv,iQ⟩: ∃gv,w3.heap.size=gv:=⟨_,rfl⟩
        rw[iQ]at y0 y1 y2 F0 F1 F2 hgl
        rw[iQ]
        have pO:=hide iQ
        have Rs:¬wr.heap.size=gv:=by omega
        clear hv iQ
        go_wp2
        obtain ⟨w8,hw8⟩: ∃w8,v0=w8:=⟨_,rfl⟩
        subst hw8
        have oZ:Hid (VSt 74 w5 v0 vs (r+m) B r):=hide (Cg.out.keep Cb.out)
        clear p0 p1 p2 p3 p4 p5 F0 F1 F2
        have gF:Hid (r<=vs.length):=hide (by rw[oZ.out.len];omega)
        have hszW:w5.heap.size<=v0.heap.size:=oZ.out.below.size
        have kU:gv<v0.heap.size:=lt_of_cell y0
        have dI:Hid ((Value.slice B r r).ownBlock≠some gv):=hide (λe=>by have hq:=oP.out.stk.take gF.out;have hl:(vs.take r).length=r:=List.length_take_of_le gF.out;have:=(hq.blk gv (hl.symm▸e)).1;have:=hgv.out;have:=pO.out;omega)
        have r1:(r:Int)<=(r:Int):=by have h1:=oP.out.stk.cap.1;have h2:=oP.out.len;omega
        go_wp2
        go_region_held3 (λV=>V.cell? ⟨gv,0,none⟩=some (.int .i64 bk)/\V.cell? ⟨gv,1,none⟩=some (.int .i64 bn)/\V.cell? ⟨gv,2,none⟩=some (.string bs)) (first|exact ⟨y0,y1,y2⟩|exact ⟨ah ((Below.refl _ _).drew.alloc (Nat.le_refl _) _) kU y0,ah ((Below.refl _ _).drew.alloc (Nat.le_refl _) _) kU y1,ah ((Below.refl _ _).drew.alloc (Nat.le_refl _) _) kU y2⟩|exact ⟨(World.cell?_of_block (gy _ (by simp;omega) dI.out)).trans (ah ((Below.refl _ _).drew.alloc (Nat.le_refl _) _) kU y0),(World.cell?_of_block (gy _ (by simp;omega) dI.out)).trans (ah ((Below.refl _ _).drew.alloc (Nat.le_refl _) _) kU y1),(World.cell?_of_block (gy _ (by simp;omega) dI.out)).trans (ah ((Below.refl _ _).drew.alloc (Nat.le_refl _) _) kU y2)⟩) (first|(refine gq (α:=Val) _ rfl (.tmp 102) (.tmp 104) 59 rfl w5.heap.size 74 i0 _ 32 Tryz.underlying59 hi hz0 hz1 hz2 rfl (by decide) B r r vs (oZ.out.stk.keep ((Below.refl _ _).drew.alloc (Nat.le_refl _) _)) gF.out rfl ⟨bk,bn,bs⟩ FM.out v0.heap.size rfl (bX _ _ _ _ rfl) (by omega) (by simp;omega) ?_;intro A' c' w9 tT gP gy;have HP:Hid (VSt 74 w5 w9 (vs.take r++[⟨bk,bn,bs⟩]) (r+1) A' c'):=hide ⟨tT,(by rw[List.length_append,List.length_take,Nat.min_eq_left gF.out];rfl),(oZ.out.below.drew.alloc (by simp;omega) _).trans gP⟩))
        go_wp2
        go_roundw
        case rel=>exact ⟨k+1,r+1,hs',ks',_,A',c',by omega,by omega,by go_num,rfl,by rw[<-fo.out];exact wH.out,HP.out⟩
        case measure=>simp[intOf];omega
     ·by_cases o1:x.op=1
      ·have eu:Hid (In w2 (some ⟨g,r*3,none⟩) m (cb-r) (vs.drop r)):=hide hin
       clear hin
       have H1:=hide o1
       clear o1
       go_wp2_with fail
       refine (iK zs x SP.out.sh m SP.out.ar _ _ _ (vs.drop r) eu.out).mono ?_
       rintro e w3 ⟨rfl,hb3⟩
       have N3:=hide (bK.below NV.out hb3 z2)
       obtain ⟨p0,p1,p2,p3,p4,p5⟩:=N3.out
       have Cg:=hide (oP.out.keep hb3)
       have eu:=hide (eu.out.below hb3)
       have hz3:wr.heap.size<w3.heap.size:=Nat.lt_of_lt_of_le z2 hb3.size
       have hgv:Hid (w2.heap.size<=w3.heap.size):=hide hb3.size
       clear hb3
       have q1:(x.op==1)=true:=by simpa using H1.out
       obtain ⟨sv,hsv⟩: ∃q,Nr zs x (vs.drop r)=q:=⟨_,rfl⟩
       obtain ⟨sk,sn,ss⟩:=sv
       have S9:=hide hsv
       rw[hsv]
       simp only[Val.cells]
       clear hsv
       obtain ⟨v0,hv0⟩: ∃v0,v0=w3.alloc (.cells #[.int .i64 sk,.int .i64 sn,.string ss] 74):=⟨_,rfl⟩
       have y0:v0.cell? ⟨w3.heap.size,0,none⟩=some (.int .i64 sk):=by rw[hv0];simp[go_sem]
       have y1:v0.cell? ⟨w3.heap.size,1,none⟩=some (.int .i64 sn):=by rw[hv0];simp[go_sem]
       have y2:v0.cell? ⟨w3.heap.size,2,none⟩=some (.string ss):=by rw[hv0];simp[go_sem]
       have F0:v0.frozen? ⟨w3.heap.size,0,none⟩=false:=by rw[hv0];simp[go_sem]
       have F1:v0.frozen? ⟨w3.heap.size,1,none⟩=false:=by rw[hv0];simp[go_sem]
       have F2:v0.frozen? ⟨w3.heap.size,2,none⟩=false:=by rw[hv0];simp[go_sem]
       have hv:Below w3.heap.size w3 v0:=by rw[hv0];exact af
       obtain ⟨bv,hbv⟩: ∃q,row.getD (index cols x.name).toNat aW=q:=⟨_,rfl⟩
       obtain ⟨bk,bn,bs⟩:=bv
       have fo:Hid (je cols row zs x (vs.drop r)=⟨bk,bn,bs⟩):=hide (by rw[je,if_pos H1.out];exact hbv)
       have FM:Hid (Flat.ok (α:=Val) ⟨bk,bn,bs⟩):=hide (by have h:=jw SP.out.new;rw[fo.out]at h;exact h)
       have Qq:Hid ((Instr.lookup 159 (.map (some gm)) (.string x.name) false).run Tryz.prog v0=.ok (.agg #[.int .i64 bk,.int .i64 bn,.string bs]) v0):=hide (by
        exact Bw ((M.out.below Cg.out.below).below hv) (by rw[hc.len,hr.len]) (SP.out.col H1.out).2.1 hbv)
       clear hbv
       go_upto_region 21 with (fail)
       rw[<-hv0]
       clear hv0 p0 p1 p2 p3 p4 p5
       obtain ⟨p0,p1,p2,p3,p4,p5⟩:=bK.below N3.out hv hz3
       have N0:=hide (bK.below N3.out hv hz3)
       have eu:=hide (eu.out.below hv)
       have hgl:w3.heap.size<v0.heap.size:=lt_of_cell y0
       have hz0':wr.heap.size<v0.heap.size:=Nat.lt_of_lt_of_le hz3 hv.size
       have Cb:=hide hv
       obtain ⟨gv,iQ⟩: ∃gv,w3.heap.size=gv:=⟨_,rfl⟩
       rw[iQ]at y0 y1 y2 F0 F1 F2 hgl
       rw[iQ]
       have pO:=hide iQ
       have Rs:¬wr.heap.size=gv:=by omega
       clear hv iQ
       have Mi:=Qq.out
       go_wp2
       obtain ⟨w8,hw8⟩: ∃w8,w8=((v0.setCell ⟨gv,0,none⟩ (.int .i64 bk)).setCell ⟨gv,1,none⟩ (.int .i64 bn)).setCell ⟨gv,2,none⟩ (.string bs):=⟨_,rfl⟩
       have S:=bC (v0:=.int .i64 bk) (v1:=.int .i64 bn) (v2:=.string bs) y0 y1 y2
       rw[<-hw8]at S
       rw[<-hw8]
       have oZ:Hid (VSt 74 w5 w8 vs (r+m) (some ⟨g,0,none⟩) cb):=hide (Cg.out.keep (by rw[hw8];exact au Cb.out (Nat.le_of_eq pO.out) _ _ _))
       have y0:=S 0 _ rfl
       have y1:=S 1 _ rfl
       have y2:=S 2 _ rfl
       clear hw8 S p0 p1 p2 p3 p4 p5 F0 F1 F2
       clear Mi
       have gF:Hid (r<=vs.length):=hide (by rw[oZ.out.len];omega)
       have hszW:w5.heap.size<=w8.heap.size:=oZ.out.below.size
       have kU:gv<w8.heap.size:=lt_of_cell y0
       have dI:Hid ((Value.slice (some ⟨g,0,none⟩) r cb).ownBlock≠some gv):=hide (λe=>by have hq:=oP.out.stk.take gF.out;have hl:(vs.take r).length=r:=List.length_take_of_le gF.out;have:=(hq.blk gv (hl.symm▸e)).1;have:=hgv.out;have:=pO.out;omega)
       have r1:(r:Int)<=(cb:Int):=by have h1:=oP.out.stk.cap.1;have h2:=oP.out.len;omega
       go_wp2
       go_region_held3 (λV=>V.cell? ⟨gv,0,none⟩=some (.int .i64 bk)/\V.cell? ⟨gv,1,none⟩=some (.int .i64 bn)/\V.cell? ⟨gv,2,none⟩=some (.string bs)) (first|exact ⟨y0,y1,y2⟩|exact ⟨ah ((Below.refl _ _).drew.alloc (Nat.le_refl _) _) kU y0,ah ((Below.refl _ _).drew.alloc (Nat.le_refl _) _) kU y1,ah ((Below.refl _ _).drew.alloc (Nat.le_refl _) _) kU y2⟩|exact ⟨(World.cell?_of_block (gy _ (by simp;omega) dI.out)).trans (ah ((Below.refl _ _).drew.alloc (Nat.le_refl _) _) kU y0),(World.cell?_of_block (gy _ (by simp;omega) dI.out)).trans (ah ((Below.refl _ _).drew.alloc (Nat.le_refl _) _) kU y1),(World.cell?_of_block (gy _ (by simp;omega) dI.out)).trans (ah ((Below.refl _ _).drew.alloc (Nat.le_refl _) _) kU y2)⟩) (first|(refine gq (α:=Val) _ rfl (.tmp 102) (.tmp 104) 59 rfl w5.heap.size 74 i0 _ 32 Tryz.underlying59 hi hz0 hz1 hz2 rfl (by decide) (some ⟨g,0,none⟩) cb r vs (oZ.out.stk.keep ((Below.refl _ _).drew.alloc (Nat.le_refl _) _)) gF.out rfl ⟨bk,bn,bs⟩ FM.out w8.heap.size rfl (bX _ _ _ _ rfl) (by omega) (by simp;omega) ?_;intro A' c' w9 tT gP gy;have HP:Hid (VSt 74 w5 w9 (vs.take r++[⟨bk,bn,bs⟩]) (r+1) A' c'):=hide ⟨tT,(by rw[List.length_append,List.length_take,Nat.min_eq_left gF.out];rfl),(oZ.out.below.drew.alloc (by simp;omega) _).trans gP⟩))
       go_wp2
       go_roundw
       case rel=>exact ⟨k+1,r+1,hs',ks',_,A',c',by omega,by omega,by go_num,rfl,by rw[<-fo.out];exact wH.out,HP.out⟩
       case measure=>simp[intOf];omega
      ·cases hsp:lW x.op
       ·obtain ⟨an,hany⟩: ∃q,((vs.drop r).any λv=>v.kind==0)=q:=⟨_,rfl⟩
        cases an
        ·have eu:Hid (In w2 (some ⟨g,r*3,none⟩) m (cb-r) (vs.drop r)):=hide hin
         clear hin
         go_wp2_with fail
         refine (iK zs x SP.out.sh m SP.out.ar _ _ _ (vs.drop r) eu.out).mono ?_
         rintro e w3 ⟨rfl,hb3⟩
         have N3:=hide (bK.below NV.out hb3 z2)
         obtain ⟨p0,p1,p2,p3,p4,p5⟩:=N3.out
         have Cg:=hide (oP.out.keep hb3)
         have eu:=hide (eu.out.below hb3)
         have hz3:wr.heap.size<w3.heap.size:=Nat.lt_of_lt_of_le z2 hb3.size
         have hgv:Hid (w2.heap.size<=w3.heap.size):=hide hb3.size
         clear hb3
         have q1:(x.op==1)=false:=by simpa using o1
         rw[x9 hsp,hsp]
         simp only[aW,Val.cells]
         obtain ⟨v0,hv0⟩: ∃v0,v0=w3.alloc (.cells #[.int .i64 0,.int .i64 0,.string ⟨#[]⟩] 74):=⟨_,rfl⟩
         have y0:v0.cell? ⟨w3.heap.size,0,none⟩=some (.int .i64 0):=by rw[hv0];simp[go_sem]
         have y1:v0.cell? ⟨w3.heap.size,1,none⟩=some (.int .i64 0):=by rw[hv0];simp[go_sem]
         have y2:v0.cell? ⟨w3.heap.size,2,none⟩=some (.string ⟨#[]⟩):=by rw[hv0];simp[go_sem]
         have F0:v0.frozen? ⟨w3.heap.size,0,none⟩=false:=by rw[hv0];simp[go_sem]
         have F1:v0.frozen? ⟨w3.heap.size,1,none⟩=false:=by rw[hv0];simp[go_sem]
         have F2:v0.frozen? ⟨w3.heap.size,2,none⟩=false:=by rw[hv0];simp[go_sem]
         have hv:Below w3.heap.size w3 v0:=by rw[hv0];exact af
         go_upto_region 22 with (fail)
         rw[<-hv0]
         clear hv0 p0 p1 p2 p3 p4 p5
         obtain ⟨p0,p1,p2,p3,p4,p5⟩:=bK.below N3.out hv hz3
         have N0:=hide (bK.below N3.out hv hz3)
         have eu:=hide (eu.out.below hv)
         have hgl:w3.heap.size<v0.heap.size:=lt_of_cell y0
         have hz0':wr.heap.size<v0.heap.size:=Nat.lt_of_lt_of_le hz3 hv.size
         have Cb:=hide hv
         obtain ⟨gv,iQ⟩: ∃gv,w3.heap.size=gv:=⟨_,rfl⟩
         rw[iQ]at y0 y1 y2 F0 F1 F2 hgl
         rw[iQ]
         have pO:=hide iQ
         have Rs:¬wr.heap.size=gv:=by omega
         clear hv iQ
         go_wp2_with fail
         refine (jB _ _ _ _ (vs.drop r) eu.out SP.out.val).mono ?_
         rintro e w4 ⟨rfl,hb4⟩
         have eu:=hide (eu.out.below hb4)
         obtain ⟨p0,p1,p2,p3,p4,p5⟩:=bK.below N0.out hb4 hz0'
         have XO:wr.heap.size<w4.heap.size:=Nat.lt_of_lt_of_le hz0' hb4.size
         have y0:=ah hb4 hgl y0
         have y1:=ah hb4 hgl y1
         have y2:=ah hb4 hgl y2
         have F0:=((ai hb4).2 _ _ hgl).trans F0
         have F1:=((ai hb4).2 _ _ hgl).trans F1
         have F2:=((ai hb4).2 _ _ hgl).trans F2
         have IG:=hide (aa Cb.out hb4)
         have tO:gv<w4.heap.size:=lt_of_cell y0
         clear hb4
         have hnn: ∀v∈vs.drop r,v.kind≠0:=by
          intro v hv h0
          have:=List.any_eq_false.1 hany v hv
          simp[h0]at this
         have SK:=hide hnn
         have hany':=hany
         rw[hany]
         clear hany hany' hnn
         obtain ⟨bv,hbv⟩: ∃q,eO zs x (vs.drop r)=q:=⟨_,rfl⟩
         obtain ⟨bk,bn,bs⟩:=bv
         have SN:=hide hbv
         clear hbv
         have fo:Hid (je cols row zs x (vs.drop r)=⟨bk,bn,bs⟩):=hide (by rw[jC o1];exact SN.out)
         have FM:Hid (Flat.ok (α:=Val) ⟨bk,bn,bs⟩):=hide (by have h:=jw SP.out.new;rw[fo.out]at h;exact h)
         go_wp2_with fail
         refine (Bh zs x SP.out.sh o1 SP.out.n21 hsp m SP.out.ar _ _ _ (vs.drop r) eu.out SP.out.val SK.out (λh2=>SP.out.bool h2 SK.out) _ _ _ (hz.below (aa hbW (aa Cg.out.below IG.out)))).mono ?_
         rintro e w6 ⟨rfl,hb6⟩
         rw[SN.out]
         simp only[Val.cells]
         have y0:=ah hb6 tO y0
         have y1:=ah hb6 tO y1
         have y2:=ah hb6 tO y2
         have F0:=((ai hb6).2 _ _ tO).trans F0
         have F1:=((ai hb6).2 _ _ tO).trans F1
         have F2:=((ai hb6).2 _ _ tO).trans F2
         have WM:=hide (aa IG.out hb6)
         clear hb6
         go_wp2
         obtain ⟨w8,hw8⟩: ∃w8,w8=((w6.setCell ⟨gv,0,none⟩ (.int .i64 bk)).setCell ⟨gv,1,none⟩ (.int .i64 bn)).setCell ⟨gv,2,none⟩ (.string bs):=⟨_,rfl⟩
         have S:=bC (v0:=.int .i64 bk) (v1:=.int .i64 bn) (v2:=.string bs) y0 y1 y2
         rw[<-hw8]at S
         rw[<-hw8]
         have oZ:Hid (VSt 74 w5 w8 vs (r+m) (some ⟨g,0,none⟩) cb):=hide (Cg.out.keep (by rw[hw8];exact au WM.out (Nat.le_of_eq pO.out) _ _ _))
         have y0:=S 0 _ rfl
         have y1:=S 1 _ rfl
         have y2:=S 2 _ rfl
         clear hw8 S p0 p1 p2 p3 p4 p5 F0 F1 F2
         have gF:Hid (r<=vs.length):=hide (by rw[oZ.out.len];omega)
         have hszW:w5.heap.size<=w8.heap.size:=oZ.out.below.size
         have kU:gv<w8.heap.size:=lt_of_cell y0
         have dI:Hid ((Value.slice (some ⟨g,0,none⟩) r cb).ownBlock≠some gv):=hide (λe=>by have hq:=oP.out.stk.take gF.out;have hl:(vs.take r).length=r:=List.length_take_of_le gF.out;have:=(hq.blk gv (hl.symm▸e)).1;have:=hgv.out;have:=pO.out;omega)
         have r1:(r:Int)<=(cb:Int):=by have h1:=oP.out.stk.cap.1;have h2:=oP.out.len;omega
         go_wp2
         go_region_held3 (λV=>V.cell? ⟨gv,0,none⟩=some (.int .i64 bk)/\V.cell? ⟨gv,1,none⟩=some (.int .i64 bn)/\V.cell? ⟨gv,2,none⟩=some (.string bs)) (first|exact ⟨y0,y1,y2⟩|exact ⟨ah ((Below.refl _ _).drew.alloc (Nat.le_refl _) _) kU y0,ah ((Below.refl _ _).drew.alloc (Nat.le_refl _) _) kU y1,ah ((Below.refl _ _).drew.alloc (Nat.le_refl _) _) kU y2⟩|exact ⟨(World.cell?_of_block (gy _ (by simp;omega) dI.out)).trans (ah ((Below.refl _ _).drew.alloc (Nat.le_refl _) _) kU y0),(World.cell?_of_block (gy _ (by simp;omega) dI.out)).trans (ah ((Below.refl _ _).drew.alloc (Nat.le_refl _) _) kU y1),(World.cell?_of_block (gy _ (by simp;omega) dI.out)).trans (ah ((Below.refl _ _).drew.alloc (Nat.le_refl _) _) kU y2)⟩) (first|(refine gq (α:=Val) _ rfl (.tmp 102) (.tmp 104) 59 rfl w5.heap.size 74 i0 _ 32 Tryz.underlying59 hi hz0 hz1 hz2 rfl (by decide) (some ⟨g,0,none⟩) cb r vs (oZ.out.stk.keep ((Below.refl _ _).drew.alloc (Nat.le_refl _) _)) gF.out rfl ⟨bk,bn,bs⟩ FM.out w8.heap.size rfl (bX _ _ _ _ rfl) (by omega) (by simp;omega) ?_;intro A' c' w9 tT gP gy;have HP:Hid (VSt 74 w5 w9 (vs.take r++[⟨bk,bn,bs⟩]) (r+1) A' c'):=hide ⟨tT,(by rw[List.length_append,List.length_take,Nat.min_eq_left gF.out];rfl),(oZ.out.below.drew.alloc (by simp;omega) _).trans gP⟩))
         go_wp2
         go_roundw
         case rel=>exact ⟨k+1,r+1,hs',ks',_,A',c',by omega,by omega,by go_num,rfl,by rw[<-fo.out];exact wH.out,HP.out⟩
         case measure=>simp[intOf];omega
        ·have eu:Hid (In w2 (some ⟨g,r*3,none⟩) m (cb-r) (vs.drop r)):=hide hin
         clear hin
         go_wp2_with fail
         refine (iK zs x SP.out.sh m SP.out.ar _ _ _ (vs.drop r) eu.out).mono ?_
         rintro e w3 ⟨rfl,hb3⟩
         have N3:=hide (bK.below NV.out hb3 z2)
         obtain ⟨p0,p1,p2,p3,p4,p5⟩:=N3.out
         have Cg:=hide (oP.out.keep hb3)
         have eu:=hide (eu.out.below hb3)
         have hz3:wr.heap.size<w3.heap.size:=Nat.lt_of_lt_of_le z2 hb3.size
         have hgv:Hid (w2.heap.size<=w3.heap.size):=hide hb3.size
         clear hb3
         have q1:(x.op==1)=false:=by simpa using o1
         rw[x9 hsp,hsp]
         simp only[aW,Val.cells]
         obtain ⟨v0,hv0⟩: ∃v0,v0=w3.alloc (.cells #[.int .i64 0,.int .i64 0,.string ⟨#[]⟩] 74):=⟨_,rfl⟩
         have y0:v0.cell? ⟨w3.heap.size,0,none⟩=some (.int .i64 0):=by rw[hv0];simp[go_sem]
         have y1:v0.cell? ⟨w3.heap.size,1,none⟩=some (.int .i64 0):=by rw[hv0];simp[go_sem]
         have y2:v0.cell? ⟨w3.heap.size,2,none⟩=some (.string ⟨#[]⟩):=by rw[hv0];simp[go_sem]
         have F0:v0.frozen? ⟨w3.heap.size,0,none⟩=false:=by rw[hv0];simp[go_sem]
         have F1:v0.frozen? ⟨w3.heap.size,1,none⟩=false:=by rw[hv0];simp[go_sem]
         have F2:v0.frozen? ⟨w3.heap.size,2,none⟩=false:=by rw[hv0];simp[go_sem]
         have hv:Below w3.heap.size w3 v0:=by rw[hv0];exact af
         go_upto_region 22 with (fail)
         rw[<-hv0]
         clear hv0 p0 p1 p2 p3 p4 p5
         obtain ⟨p0,p1,p2,p3,p4,p5⟩:=bK.below N3.out hv hz3
         have N0:=hide (bK.below N3.out hv hz3)
         have eu:=hide (eu.out.below hv)
         have hgl:w3.heap.size<v0.heap.size:=lt_of_cell y0
         have hz0':wr.heap.size<v0.heap.size:=Nat.lt_of_lt_of_le hz3 hv.size
         have Cb:=hide hv
         obtain ⟨gv,iQ⟩: ∃gv,w3.heap.size=gv:=⟨_,rfl⟩
         rw[iQ]at y0 y1 y2 F0 F1 F2 hgl
         rw[iQ]
         have pO:=hide iQ
         have Rs:¬wr.heap.size=gv:=by omega
         clear hv iQ
         go_wp2_with fail
         refine (jB _ _ _ _ (vs.drop r) eu.out SP.out.val).mono ?_
         rintro e w4 ⟨rfl,hb4⟩
         have eu:=hide (eu.out.below hb4)
         obtain ⟨p0,p1,p2,p3,p4,p5⟩:=bK.below N0.out hb4 hz0'
         have XO:wr.heap.size<w4.heap.size:=Nat.lt_of_lt_of_le hz0' hb4.size
         have y0:=ah hb4 hgl y0
         have y1:=ah hb4 hgl y1
         have y2:=ah hb4 hgl y2
         have F0:=((ai hb4).2 _ _ hgl).trans F0
         have F1:=((ai hb4).2 _ _ hgl).trans F1
         have F2:=((ai hb4).2 _ _ hgl).trans F2
         have IG:=hide (aa Cb.out hb4)
         have tO:gv<w4.heap.size:=lt_of_cell y0
         clear hb4
         have Qj:Hid (je cols row zs x (vs.drop r)=aW):=hide (by rw[jC o1];exact EP SP.out.sh o1 SP.out.n21 hsp SP.out.ar (by rw[List.length_drop,oP.out.len];omega) hany)
         rw[hany]
         obtain ⟨bk,hbk⟩: ∃bk:Int,bk=0:=⟨_,rfl⟩
         obtain ⟨bn,hbn⟩: ∃bn:Int,bn=0:=⟨_,rfl⟩
         obtain ⟨bs,hbs⟩: ∃bs:ByteArray,bs=⟨#[]⟩:=⟨_,rfl⟩
         have fo:Hid (je cols row zs x (vs.drop r)=⟨bk,bn,bs⟩):=hide (by rw[Qj.out,hbk,hbn,hbs];rfl)
         have FM:Hid (Flat.ok (α:=Val) ⟨bk,bn,bs⟩):=hide (by have h:=jw SP.out.new;rw[fo.out]at h;exact h)
         have y0:w4.cell? ⟨gv,0,none⟩=some (.int .i64 bk):=by rw[hbk];exact y0
         have y1:w4.cell? ⟨gv,1,none⟩=some (.int .i64 bn):=by rw[hbn];exact y1
         have y2:w4.cell? ⟨gv,2,none⟩=some (.string bs):=by rw[hbs];exact y2
         clear hbk hbn hbs hany
         go_wp2
         obtain ⟨w8,hw8⟩: ∃w8,w4=w8:=⟨_,rfl⟩
         subst hw8
         have oZ:Hid (VSt 74 w5 w4 vs (r+m) (some ⟨g,0,none⟩) cb):=hide (Cg.out.keep IG.out)
         clear p0 p1 p2 p3 p4 p5 F0 F1 F2
         have gF:Hid (r<=vs.length):=hide (by rw[oZ.out.len];omega)
         have hszW:w5.heap.size<=w4.heap.size:=oZ.out.below.size
         have kU:gv<w4.heap.size:=lt_of_cell y0
         have dI:Hid ((Value.slice (some ⟨g,0,none⟩) r cb).ownBlock≠some gv):=hide (λe=>by have hq:=oP.out.stk.take gF.out;have hl:(vs.take r).length=r:=List.length_take_of_le gF.out;have:=(hq.blk gv (hl.symm▸e)).1;have:=hgv.out;have:=pO.out;omega)
         have r1:(r:Int)<=(cb:Int):=by have h1:=oP.out.stk.cap.1;have h2:=oP.out.len;omega
         go_wp2
         go_region_held3 (λV=>V.cell? ⟨gv,0,none⟩=some (.int .i64 bk)/\V.cell? ⟨gv,1,none⟩=some (.int .i64 bn)/\V.cell? ⟨gv,2,none⟩=some (.string bs)) (first|exact ⟨y0,y1,y2⟩|exact ⟨ah ((Below.refl _ _).drew.alloc (Nat.le_refl _) _) kU y0,ah ((Below.refl _ _).drew.alloc (Nat.le_refl _) _) kU y1,ah ((Below.refl _ _).drew.alloc (Nat.le_refl _) _) kU y2⟩|exact ⟨(World.cell?_of_block (gy _ (by simp;omega) dI.out)).trans (ah ((Below.refl _ _).drew.alloc (Nat.le_refl _) _) kU y0),(World.cell?_of_block (gy _ (by simp;omega) dI.out)).trans (ah ((Below.refl _ _).drew.alloc (Nat.le_refl _) _) kU y1),(World.cell?_of_block (gy _ (by simp;omega) dI.out)).trans (ah ((Below.refl _ _).drew.alloc (Nat.le_refl _) _) kU y2)⟩) (first|(refine gq (α:=Val) _ rfl (.tmp 102) (.tmp 104) 59 rfl w5.heap.size 74 i0 _ 32 Tryz.underlying59 hi hz0 hz1 hz2 rfl (by decide) (some ⟨g,0,none⟩) cb r vs (oZ.out.stk.keep ((Below.refl _ _).drew.alloc (Nat.le_refl _) _)) gF.out rfl ⟨bk,bn,bs⟩ FM.out w4.heap.size rfl (bX _ _ _ _ rfl) (by omega) (by simp;omega) ?_;intro A' c' w9 tT gP gy;have HP:Hid (VSt 74 w5 w9 (vs.take r++[⟨bk,bn,bs⟩]) (r+1) A' c'):=hide ⟨tT,(by rw[List.length_append,List.length_take,Nat.min_eq_left gF.out];rfl),(oZ.out.below.drew.alloc (by simp;omega) _).trans gP⟩))
         go_wp2
         go_roundw
         case rel=>exact ⟨k+1,r+1,hs',ks',_,A',c',by omega,by omega,by go_num,rfl,by rw[<-fo.out];exact wH.out,HP.out⟩
         case measure=>simp[intOf];omega
       ·have eu:Hid (In w2 (some ⟨g,r*3,none⟩) m (cb-r) (vs.drop r)):=hide hin
        clear hin
        go_wp2_with fail
        refine (iK zs x SP.out.sh m SP.out.ar _ _ _ (vs.drop r) eu.out).mono ?_
        rintro e w3 ⟨rfl,hb3⟩
        have N3:=hide (bK.below NV.out hb3 z2)
        obtain ⟨p0,p1,p2,p3,p4,p5⟩:=N3.out
        have Cg:=hide (oP.out.keep hb3)
        have eu:=hide (eu.out.below hb3)
        have hz3:wr.heap.size<w3.heap.size:=Nat.lt_of_lt_of_le z2 hb3.size
        have hgv:Hid (w2.heap.size<=w3.heap.size):=hide hb3.size
        clear hb3
        have q1:(x.op==1)=false:=by simpa using o1
        obtain ⟨sv,hsv⟩: ∃q,Nr zs x (vs.drop r)=q:=⟨_,rfl⟩
        obtain ⟨bk,bn,bs⟩:=sv
        have S9:=hide hsv
        rw[hsv]
        simp only[Val.cells]
        clear hsv
        obtain ⟨v0,hv0⟩: ∃v0,v0=w3.alloc (.cells #[.int .i64 bk,.int .i64 bn,.string bs] 74):=⟨_,rfl⟩
        have y0:v0.cell? ⟨w3.heap.size,0,none⟩=some (.int .i64 bk):=by rw[hv0];simp[go_sem]
        have y1:v0.cell? ⟨w3.heap.size,1,none⟩=some (.int .i64 bn):=by rw[hv0];simp[go_sem]
        have y2:v0.cell? ⟨w3.heap.size,2,none⟩=some (.string bs):=by rw[hv0];simp[go_sem]
        have F0:v0.frozen? ⟨w3.heap.size,0,none⟩=false:=by rw[hv0];simp[go_sem]
        have F1:v0.frozen? ⟨w3.heap.size,1,none⟩=false:=by rw[hv0];simp[go_sem]
        have F2:v0.frozen? ⟨w3.heap.size,2,none⟩=false:=by rw[hv0];simp[go_sem]
        have hv:Below w3.heap.size w3 v0:=by rw[hv0];exact af
        have fo:Hid (je cols row zs x (vs.drop r)=⟨bk,bn,bs⟩):=hide (by rw[jC o1,<-xm hsp,S9.out])
        have FM:Hid (Flat.ok (α:=Val) ⟨bk,bn,bs⟩):=hide (by have h:=jw SP.out.new;rw[fo.out]at h;exact h)
        rw[hsp]
        go_upto_region 22 with (fail)
        rw[<-hv0]
        clear hv0 p0 p1 p2 p3 p4 p5
        obtain ⟨p0,p1,p2,p3,p4,p5⟩:=bK.below N3.out hv hz3
        have N0:=hide (bK.below N3.out hv hz3)
        have eu:=hide (eu.out.below hv)
        have hgl:w3.heap.size<v0.heap.size:=lt_of_cell y0
        have hz0':wr.heap.size<v0.heap.size:=Nat.lt_of_lt_of_le hz3 hv.size
        have Cb:=hide hv
        obtain ⟨gv,iQ⟩: ∃gv,w3.heap.size=gv:=⟨_,rfl⟩
        rw[iQ]at y0 y1 y2 F0 F1 F2 hgl
        rw[iQ]
        have pO:=hide iQ
        have Rs:¬wr.heap.size=gv:=by omega
        clear hv iQ
        go_wp2
        obtain ⟨w8,hw8⟩: ∃w8,v0=w8:=⟨_,rfl⟩
        subst hw8
        have oZ:Hid (VSt 74 w5 v0 vs (r+m) (some ⟨g,0,none⟩) cb):=hide (Cg.out.keep Cb.out)
        clear p0 p1 p2 p3 p4 p5 F0 F1 F2
        have gF:Hid (r<=vs.length):=hide (by rw[oZ.out.len];omega)
        have hszW:w5.heap.size<=v0.heap.size:=oZ.out.below.size
        have kU:gv<v0.heap.size:=lt_of_cell y0
        have dI:Hid ((Value.slice (some ⟨g,0,none⟩) r cb).ownBlock≠some gv):=hide (λe=>by have hq:=oP.out.stk.take gF.out;have hl:(vs.take r).length=r:=List.length_take_of_le gF.out;have:=(hq.blk gv (hl.symm▸e)).1;have:=hgv.out;have:=pO.out;omega)
        have r1:(r:Int)<=(cb:Int):=by have h1:=oP.out.stk.cap.1;have h2:=oP.out.len;omega
        go_wp2
        go_region_held3 (λV=>V.cell? ⟨gv,0,none⟩=some (.int .i64 bk)/\V.cell? ⟨gv,1,none⟩=some (.int .i64 bn)/\V.cell? ⟨gv,2,none⟩=some (.string bs)) (first|exact ⟨y0,y1,y2⟩|exact ⟨ah ((Below.refl _ _).drew.alloc (Nat.le_refl _) _) kU y0,ah ((Below.refl _ _).drew.alloc (Nat.le_refl _) _) kU y1,ah ((Below.refl _ _).drew.alloc (Nat.le_refl _) _) kU y2⟩|exact ⟨(World.cell?_of_block (gy _ (by simp;omega) dI.out)).trans (ah ((Below.refl _ _).drew.alloc (Nat.le_refl _) _) kU y0),(World.cell?_of_block (gy _ (by simp;omega) dI.out)).trans (ah ((Below.refl _ _).drew.alloc (Nat.le_refl _) _) kU y1),(World.cell?_of_block (gy _ (by simp;omega) dI.out)).trans (ah ((Below.refl _ _).drew.alloc (Nat.le_refl _) _) kU y2)⟩) (first|(refine gq (α:=Val) _ rfl (.tmp 102) (.tmp 104) 59 rfl w5.heap.size 74 i0 _ 32 Tryz.underlying59 hi hz0 hz1 hz2 rfl (by decide) (some ⟨g,0,none⟩) cb r vs (oZ.out.stk.keep ((Below.refl _ _).drew.alloc (Nat.le_refl _) _)) gF.out rfl ⟨bk,bn,bs⟩ FM.out v0.heap.size rfl (bX _ _ _ _ rfl) (by omega) (by simp;omega) ?_;intro A' c' w9 tT gP gy;have HP:Hid (VSt 74 w5 w9 (vs.take r++[⟨bk,bn,bs⟩]) (r+1) A' c'):=hide ⟨tT,(by rw[List.length_append,List.length_take,Nat.min_eq_left gF.out];rfl),(oZ.out.below.drew.alloc (by simp;omega) _).trans gP⟩))
        go_wp2
        go_roundw
        case rel=>exact ⟨k+1,r+1,hs',ks',_,A',c',by omega,by omega,by go_num,rfl,by rw[<-fo.out];exact wH.out,HP.out⟩
        case measure=>simp[intOf];omega
    ·have HX:=hide (aP hx.len (show n<=k by omega))
     obtain ⟨rfl,y,rfl,hy⟩:=Run.last HQ.out HX.out
     have eu:Hid (In wr B 1 cb [y]):=hide VS.out.stk.inn
     obtain ⟨b3,Db,y',rfl,hB3,HY,y0,y1,y2,xx⟩:=eu.out.val (show 0<1 by omega)
     have Z7:y=y':=by have:=HY.out;simp at this;exact this
     subst Z7
     simp only[Nat.zero_mul,Nat.add_zero]at y0 y1 y2
     have Dx:=hide hy
     obtain ⟨yk,yn,ys⟩:=y
     obtain ⟨z0,z1,z2,f0,f1,f2,_⟩:=(Z.out.below VS.out.below)
     have hzb:¬b3=w.heap.size:=by have h:=VS.out.stk.blk b3 (by rw[VS.out.len];rfl);have h2:=Z.out.lt;omega
     have k0:(0:Int)<(1:Int):=by omega
     clear hy
     go_wp2
     refine bodyPost_ret (v:=.tuple #[.agg (Val.cells ⟨yk,yn,ys⟩).toArray,.int .i64 (0)]) (aA (cs:=Val.cells ⟨yk,yn,ys⟩) rfl _ _ w.heap.size _ _ rfl rfl (bC z0 z1 z2) Tryz.underlying74 rfl (by kernel_rfl)) rfl ⟨by rw[HN.out,Dx.out],au (aa hbW VS.out.below) (Nat.le_refl _) _ _ _⟩
end Go.Proofs.YtggejcekmehocaaGreatDoor
