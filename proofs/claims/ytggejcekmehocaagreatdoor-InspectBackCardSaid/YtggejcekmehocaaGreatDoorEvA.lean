/-
  scalar.Eval: it returns evalS. (Printed by gen_eval.py.)
-/
import Derived.Test.YtggejcekmehocaaGreatDoorGay
import Derived.Test.YtggejcekmehocaaGreatDoorGad
namespace Go.Proofs.YtggejcekmehocaaGreatDoor
set_option maxHeartbeats 40000000
set_option maxRecDepth 100000
open Go.RowKit
set_option linter.unusedSimpArgs false
set_option linter.unusedVariables false
structure VSt (T:TypeId) (w wr:World) (st:List Val) (d:Nat) (A:Option Addr) (c:Nat):Prop where
 stk:Stk w.heap.size wr T A c st
 len:st.length=d
 below:Below w.heap.size w wr
theorem VSt.keep {T:TypeId}{w wr w':World}{st:List Val}{d:Nat}{A:Option Addr}{c:Nat}(h:VSt T w wr st d A c)(hb:Below wr.heap.size wr w'):VSt T w w' st d A c:=
 ⟨h.stk.keep hb,h.len,below_trans h.below hb⟩
theorem Zr.grown {w w':World}{g b:Nat}(h:Zr w g)(hb:w.grownBy w' (some b))(hne:g≠b):Zr w' g:=by
 have hbl:=hb.block g h.lt (λe=>hne (Option.some.inj e))
 have c: ∀o,w'.cell? ⟨g,o,none⟩=w.cell? ⟨g,o,none⟩:=λo=>World.cell?_of_block hbl
 have f: ∀o,w'.frozen? ⟨g,o,none⟩=w.frozen? ⟨g,o,none⟩:=λo=>World.frozen?_of_block hbl
 exact ⟨(c 0).trans h.c0,(c 1).trans h.c1,(c 2).trans h.c2,(f 0).trans h.f0,(f 1).trans h.f1,(f 2).trans h.f2,by have:=h.lt;have:=hb.size;omega⟩
theorem Zr.drew {w:World}{g:Nat}(h:Zr w g):Zr w.drew g:=⟨h.c0,h.c1,h.c2,h.f0,h.f1,h.f2,h.lt⟩
theorem look_name {w:World}{b:Nat}{cols:List Col}{row:List Val}{name:ByteArray}(h:SMap w b (pairs cols row))(hl:cols.length=row.length)(hi:0<=index cols name){v:Val}(hv:row.getD (index cols name).toNat nullV=v):
  (Instr.lookup 159 (.map (some b)) (.string name) false).run Tryz.prog w=.ok (.agg #[.int .i64 v.kind,.int .i64 v.num,.string v.str]) w:=by
 have hz:(zeroValue 74).run Tryz.prog w=.ok (.agg #[.int .i64 0,.int .i64 0,.string ⟨#[]⟩]) w:=by kernel_rfl
 have h:=(run_look (P:=Tryz.prog) Tryz.underlying159 Tryz.underlying9 h name _ hz).2
 rw[look_col hl hi,hv,Option.getD_some]at h
 exact h
theorem SMap.drew {w:World}{b:Nat}{es:List (ByteArray×Value)}(h:SMap w b es):SMap w.drew b es:=h
theorem eval_any (w:World)(A:Option Addr)(n c:Nat)(es:List Node)(hx:In w A n c es)(hw:Words w)(A1:Option Addr)(n1 c1:Nat)(cols:List Col)(hc:In w A1 n1 c1 cols)(A3:Option Addr)(n3 c3:Nat)(row:List Val)(hr:In w A3 n3 c3 row)(A2:Option Addr)(n2 c2:Nat)(zs:List Zone)(hz:In w A2 n2 c2 zs):
  Calls Tryz.prog 103 #[.slice A n c,.slice A1 n1 c1,.slice A3 n3 c3,.slice A2 n2 c2] w λe w'=>e=.returned (.tuple #[.agg (evalS es cols row zs).2.cells.toArray,.int .i64 (evalS es cols row zs).1])/\Below w.heap.size w w':=by
 have h63:=hx.le
 have h64:=hc.le
 have h65:=hr.le
 obtain ⟨i0,hi,hz0,hz1,hz2⟩:=info_parts val_info
 have hmm:=@run_makeMap Tryz.prog
 go_enter Tryz.func103,Tryz.ntmps103
 go_wp2_with fail
 refine (type_any _ _ _ _ es (hx.below below_alloc) (hw.below below_alloc) _ _ _ cols (hc.below below_alloc) _ _ _ zs (hz.below below_alloc)).mono ?_
 rintro e w1 ⟨rfl,hb1⟩
 have Z:=hide ((Zr.made w 74).below hb1)
 have hbb:=below_trans below_alloc hb1
 clear hb1
 obtain ⟨te,ht⟩: ∃q,typeS es cols zs=q:=⟨_,rfl⟩
 obtain ⟨te,tk⟩:=te
 have HT:=hide ht
 rw[ht]
 clear ht
 by_cases h0:¬te=0
 ·have HN:Hid (evalS es cols row zs=(te,nullV)):=hide (by rw[evalS,HT.out,if_pos h0])
  have q:(te != 0)=true:=by simpa using h0
  obtain ⟨z0,z1,z2,f0,f1,f2,_⟩:=Z.out
  clear h0
  go_wp2
  refine bodyPost_ret (v:=.tuple #[.agg (Val.cells nullV).toArray,.int .i64 (te)]) (results_cells2 (cs:=Val.cells nullV) rfl _ _ w.heap.size _ _ rfl rfl (set_three z0 z1 z2) Tryz.underlying74 rfl (by kernel_rfl)) rfl ⟨by rw[HN.out],below_set3 hbb (Nat.le_refl _) _ _ _⟩
 replace h0:te=0:=by omega
 subst h0
 go_wp2_with fail
 refine (checkRow_any _ _ _ _ _ _ _ cols row (hc.below hbb) (hr.below hbb)).mono ?_
 rintro e w2 ⟨rfl,hb2⟩
 have Z:=hide (Z.out.below hb2)
 have hbb:=below_trans hbb hb2
 clear hb2
 by_cases h1:¬rowErr cols row=0
 ·have HN:Hid (evalS es cols row zs=(rowErr cols row,nullV)):=hide (by rw[evalS,HT.out,if_neg (by simp),if_pos h1])
  have q:(rowErr cols row != 0)=true:=by simpa using h1
  obtain ⟨z0,z1,z2,f0,f1,f2,_⟩:=Z.out
  clear h1
  go_wp2
  refine bodyPost_ret (v:=.tuple #[.agg (Val.cells nullV).toArray,.int .i64 (rowErr cols row)]) (results_cells2 (cs:=Val.cells nullV) rfl _ _ w.heap.size _ _ rfl rfl (set_three z0 z1 z2) Tryz.underlying74 rfl (by kernel_rfl)) rfl ⟨by rw[HN.out],below_set3 hbb (Nat.le_refl _) _ _ _⟩
 replace h1:rowErr cols row=0:=by omega
 have zlt2:w.heap.size<w2.heap.size:=Z.out.lt
 have HR:=hide h1
 have HN:Hid (evalS es cols row zs=(0,valLoop cols row zs [] es)):=hide (by rw[evalS,HT.out,if_neg (by simp),if_neg (by simp[h1])])
 have hnn:n3=n1:=by have:=row_len h1;rw[hc.len,hr.len]at this;exact this
 subst hnn
 have HS:=hide (Run.short (row:=row) (es:=es) (cols:=cols) (zs:=zs) (by rw[HT.out]))
 have HRUN:=hide (Run.start (row:=row) (es:=es) (cols:=cols) (zs:=zs) (by rw[HT.out]))
 have hn256:n<=256:=by have:=HS.out.1;rw[hx.len]at this;exact this
 rw[h1]
 clear h1
 go_wp2
 obtain ⟨w3,hw3⟩: ∃w3,w3=w2.alloc (.map #[] 0):=⟨_,rfl⟩
 have M:Hid (SMap w3 w2.heap.size []):=hide (by rw[hw3];exact SMap.made w2)
 have Z:=hide (Z.out.below (show Below w2.heap.size w2 w3 by rw[hw3];exact below_alloc))
 have hbb:Below w.heap.size w w3:=by rw[hw3];exact below_trans hbb below_alloc
 have hzn:Hid (¬w.heap.size=w2.heap.size):=hide (by have h1:=Z.out.lt;rw[hw3]at h1;have:=M.out.lt;have h3:w.heap.size<w2.heap.size:=zlt2;omega)
 obtain ⟨gm,hgm⟩: ∃gm,w2.heap.size=gm:=⟨_,rfl⟩
 rw[hgm]at M hzn
 rw[hgm]
 have hgm0:Hid (w.heap.size<=gm):=hide (by have h3:w.heap.size<w2.heap.size:=zlt2;omega)
 rw[<-hw3]
 clear hw3 hgm
 go_loopw [46] (λi wr=> ∃k:Nat,k<=n3/\i=.int .i64 k/\SMap wr gm (pairs (cols.take k) (row.take k))/\Zr wr w.heap.size/\Below w.heap.size w wr) (λi _=>n3-(intOf i).toNat)
 case atStart=>exact ⟨0,Nat.zero_le _,rfl,by simpa[pairs] using M.out,Z.out,hbb⟩
 case round=>
  obtain ⟨k,hk,rfl,hm,hzr,hb⟩:=hrel
  have M:=hide hm
  have Z:=hide hzr
  clear hm hzr
  by_cases hlt:k<n3
  ·obtain ⟨b,off,x,rfl,hB,HX,f0,f1,f2,hok⟩:=(hc.below hb).col hlt
   obtain ⟨b',off',v,rfl,hB',HV,v0,v1,v2,vok⟩:=(hr.below hb).val hlt
   have hbz:=hb.size
   have hgl0:gm<wr.heap.size:=M.out.lt
   have hzl:=Z.out.lt
   have HLN:Hid (lookS x.name (pairs (cols.take k) (row.take k))=none):=hide (look_new HS.out.2 (by rw[hc.len,hr.len]) (drop_get HX.out).1)
   have HPN:Hid (pairs (cols.take (k+1)) (row.take (k+1))=pairs (cols.take k) (row.take k)++[(x.name,.agg v.cells.toArray)]):=hide (pairs_next (by rw[hc.len,hr.len]) (drop_get HX.out).1 (drop_get HV.out).1)
   have k0:(0:Int)<=(k:Int):=by omega
   have k1:(k:Int)<(n3:Int):=by omega
   go_wp2
   obtain ⟨v5,hv5⟩: ∃v5,v5=wr.alloc (.cells #[.string x.name,.int .i64 x.kind,.bool x.nullable] 82):=⟨_,rfl⟩
   have c0:v5.cell? ⟨wr.heap.size,0,none⟩=some (.string x.name):=by rw[hv5];simp[go_sem]
   have hv:Below wr.heap.size wr v5:=by rw[hv5];exact below_alloc
   rw[<-hv5]
   clear hv5 f0 f1 f2
   have v0:=bat hv hB' v0
   have v1:=bat hv hB' v1
   have v2:=bat hv hB' v2
   have M:=hide (M.out.below hv)
   have Z:=hide (Z.out.below hv)
   have hb:=below_trans hb hv
   have hgl:gm<v5.heap.size:=M.out.lt
   have hcl:wr.heap.size<v5.heap.size:=lt_of_cell c0
   have hvl:b'<v5.heap.size:=lt_of_cell v0
   clear hv
   obtain ⟨w6,hrun,hm6,hg6⟩:=run_store_new (P:=Tryz.prog) Tryz.underlying159 Tryz.underlying9 (show SMap v5.drew gm (pairs (cols.take k) (row.take k)) from M.out) x.name (.agg #[.int .i64 v.kind,.int .i64 v.num,.string v.str]) HLN.out
   have hbl: ∀g o,g<v5.heap.size->g≠gm->w6.cell? ⟨g,o,none⟩=v5.cell? ⟨g,o,none⟩:=λg o hg hne=>World.cell?_of_block (hg6.block g hg (λe=>hne (Option.some.inj e)))
   have hne1:¬wr.heap.size=gm:=by have:=hgl0;omega
   have hne2:¬b'=gm:=by have h:=hgm0.out;have h2:=(hr.val hlt);obtain ⟨b2,o2,v2,e2,hb2,_⟩:=h2;injection e2 with e2;injection e2 with e2 e3;omega
   have c0':=(hbl _ 0 hcl hne1).trans c0
   have v0':=(hbl _ (off'+k*3) hvl hne2).trans v0
   have v1':=(hbl _ (off'+k*3+1) hvl hne2).trans v1
   have v2':=(hbl _ (off'+k*3+2) hvl hne2).trans v2
   have Z6:=hide ((Z.out.drew.grown hg6 hzn.out:Zr w6 w.heap.size))
   have hb6:Below w.heap.size w w6:=hb.drew.grown hg6 (by simp;omega) (λg hg=>by injection hg with hg;subst hg;exact hgm0.out)
   clear hbl
   go_region_held3 (λV=>V.cell? ⟨wr.heap.size,0,none⟩=some (.string x.name)/\V.cell? ⟨b',off'+k*3,none⟩=some (.int .i64 v.kind)/\V.cell? ⟨b',off'+k*3+1,none⟩=some (.int .i64 v.num)/\V.cell? ⟨b',off'+k*3+2,none⟩=some (.string v.str)) (first|exact ⟨c0,v0,v1,v2⟩|exact ⟨c0',v0',v1',v2'⟩) (first|fail)
   go_wp2
   go_roundw
   case rel=>exact ⟨k+1,by omega,by go_num,by rw[HPN.out];exact hm6,Z6.out,hb6⟩
   case measure=>simp[intOf];omega
  ·have M:=hide (show SMap wr gm (pairs cols row) by have h:=M.out;rw[List.take_of_length_le (by rw[hc.len];omega),List.take_of_length_le (by rw[hr.len];omega)]at h;exact h)
   go_wp2
   clear hlt hk
   obtain ⟨w5,hw5⟩: ∃w5,w5=wr:=⟨_,rfl⟩
   subst hw5
   have hbW:=hb
   clear hb
   go_loopw [17,61] (λv i wv=> ∃(k d:Nat) (hs:List Int) (ks:List Kd) (vs:List Val) (B:Option Addr) (cb:Nat),k<=n/\d<=k/\i=.int .i64 k/\v=.slice B d cb/\Run cols row zs es k d hs ks vs/\VSt 74 w5 wv vs d B cb) (λ_ i _=>n-(intOf i).toNat)
   case atStart=>exact ⟨0,0,[],[],[],none,0,Nat.zero_le _,Nat.zero_le _,rfl,rfl,HRUN.out,⟨Stk.nil_ _ _ _,rfl,Below.refl _ _⟩⟩
   case round=>
    obtain ⟨k,d,hs,ks,vs,B,cb,hk,hdk,rfl,rfl,hrn,hst⟩:=hrel
    have HQ:=hide hrn
    have VS:=hide hst
    clear hrn hst
    by_cases hlt:k<n
    ·obtain ⟨b,off,x,rfl,hB,HX,f0,f1,f2,f3,f4,f5,hok⟩:=(hx.below (below_trans hbW VS.out.below)).node hlt
     have NA:=hide (NodeAt.made wr x)
     obtain ⟨m,r,hs',ks',rfl,hsp0,hrun2⟩:=Run.step HS.out.2 HR.out HQ.out HX.out
     have SP:=hide hsp0
     have HRUN2:=hide hrun2
     clear hsp0 hrun2 hok
     go_wp2_with fail
     refine (arity_any x _).mono ?_
     rintro e w2 ⟨rfl,hb2⟩
     rw[SP.out.ar]
     have NV:=hide (NA.out.below hb2 (by simp))
     have VS2:=hide ((VS.out.keep below_alloc).keep hb2)
     have z2:wr.heap.size<w2.heap.size:=by have:=hb2.size;simp at this;omega
     obtain ⟨g0,g1,g2,g3,g4,g5⟩:=NV.out
     have r0:(0:Int)<=(r:Int):=by omega
     have r2:(r:Int)<=(r:Int)+(m:Int):=by omega
     clear hb2 f0 f1 f2 f3 f4 f5
     rcases ops_of VS2.out.stk VS2.out.len with ⟨rfl,hm0⟩|⟨hcb,g,rfl,hin⟩
     ·by_cases o1:x.op=1
      ·have HIN:Hid (In w2 B m 0 (vs.drop r)):=hide (by rw[List.drop_eq_nil_of_le (by rw[VS2.out.len];omega),hm0];exact Sl.empty (by omega) (λ_=>rfl))
       clear hm0
       have H1:=hide o1
       clear o1
       go_wp2_with fail
       refine (special_any zs x SP.out.sh m SP.out.ar _ _ _ (vs.drop r) HIN.out).mono ?_
       rintro e w3 ⟨rfl,hb3⟩
       have N3:=hide (NodeAt.below NV.out hb3 z2)
       obtain ⟨p0,p1,p2,p3,p4,p5⟩:=N3.out
       have VS3:=hide (VS2.out.keep hb3)
       have HIN:=hide (HIN.out.below hb3)
       have hz3:wr.heap.size<w3.heap.size:=Nat.lt_of_lt_of_le z2 hb3.size
       have hgv:Hid (w2.heap.size<=w3.heap.size):=hide hb3.size
       clear hb3
       have q1:(x.op==1)=true:=by simpa using H1.out
       obtain ⟨sv,hsv⟩: ∃q,spV zs x (vs.drop r)=q:=⟨_,rfl⟩
       obtain ⟨sk,sn,ss⟩:=sv
       have HSV:=hide hsv
       rw[hsv]
       simp only[Val.cells]
       clear hsv
       obtain ⟨v0,hv0⟩: ∃v0,v0=w3.alloc (.cells #[.int .i64 sk,.int .i64 sn,.string ss] 74):=⟨_,rfl⟩
       have y0:v0.cell? ⟨w3.heap.size,0,none⟩=some (.int .i64 sk):=by rw[hv0];simp[go_sem]
       have y1:v0.cell? ⟨w3.heap.size,1,none⟩=some (.int .i64 sn):=by rw[hv0];simp[go_sem]
       have y2:v0.cell? ⟨w3.heap.size,2,none⟩=some (.string ss):=by rw[hv0];simp[go_sem]
       have F0:v0.frozen? ⟨w3.heap.size,0,none⟩=false:=by rw[hv0];simp[go_sem]
       have F1:v0.frozen? ⟨w3.heap.size,1,none⟩=false:=by rw[hv0];simp[go_sem]
       have F2:v0.frozen? ⟨w3.heap.size,2,none⟩=false:=by rw[hv0];simp[go_sem]
       have hv:Below w3.heap.size w3 v0:=by rw[hv0];exact below_alloc
       obtain ⟨bv,hbv⟩: ∃q,row.getD (index cols x.name).toNat nullV=q:=⟨_,rfl⟩
       obtain ⟨bk,bn,bs⟩:=bv
       have HBV:Hid (nodeV cols row zs x (vs.drop r)=⟨bk,bn,bs⟩):=hide (by rw[nodeV,if_pos H1.out];exact hbv)
       have HOK:Hid (Flat.ok (α:=Val) ⟨bk,bn,bs⟩):=hide (by have h:=valid_ok SP.out.new;rw[HBV.out]at h;exact h)
       have HLK:Hid ((Instr.lookup 159 (.map (some gm)) (.string x.name) false).run Tryz.prog v0=.ok (.agg #[.int .i64 bk,.int .i64 bn,.string bs]) v0):=hide (by
        exact look_name ((M.out.below VS3.out.below).below hv) (by rw[hc.len,hr.len]) (SP.out.col H1.out).2.1 hbv)
       clear hbv
       go_upto_region 21 with (fail)
       rw[<-hv0]
       clear hv0 p0 p1 p2 p3 p4 p5
       obtain ⟨p0,p1,p2,p3,p4,p5⟩:=NodeAt.below N3.out hv hz3
       have N0:=hide (NodeAt.below N3.out hv hz3)
       have HIN:=hide (HIN.out.below hv)
       have hgl:w3.heap.size<v0.heap.size:=lt_of_cell y0
       have hz0':wr.heap.size<v0.heap.size:=Nat.lt_of_lt_of_le hz3 hv.size
       have HV3:=hide hv
       obtain ⟨gv,hgvv⟩: ∃gv,w3.heap.size=gv:=⟨_,rfl⟩
       rw[hgvv]at y0 y1 y2 F0 F1 F2 hgl
       rw[hgvv]
       have hgvh:=hide hgvv
       have hnv:¬wr.heap.size=gv:=by omega
       clear hv hgvv
       have hlook:=HLK.out
       go_wp2
       obtain ⟨w8,hw8⟩: ∃w8,w8=((v0.setCell ⟨gv,0,none⟩ (.int .i64 bk)).setCell ⟨gv,1,none⟩ (.int .i64 bn)).setCell ⟨gv,2,none⟩ (.string bs):=⟨_,rfl⟩
       have S:=set_three (v0:=.int .i64 bk) (v1:=.int .i64 bn) (v2:=.string bs) y0 y1 y2
       rw[<-hw8]at S
       rw[<-hw8]
       have VS8:Hid (VSt 74 w5 w8 vs (r+m) B r):=hide (VS3.out.keep (by rw[hw8];exact below_set3 HV3.out (Nat.le_of_eq hgvh.out) _ _ _))
       have y0:=S 0 _ rfl
       have y1:=S 1 _ rfl
       have y2:=S 2 _ rfl
       clear hw8 S p0 p1 p2 p3 p4 p5 F0 F1 F2
       clear hlook
       have HLE:Hid (r<=vs.length):=hide (by rw[VS8.out.len];omega)
       have hszW:w5.heap.size<=w8.heap.size:=VS8.out.below.size
       have hG8:gv<w8.heap.size:=lt_of_cell y0
       have HNE:Hid ((Value.slice B r r).ownBlock≠some gv):=hide (λe=>by have hq:=VS2.out.stk.take HLE.out;have hl:(vs.take r).length=r:=List.length_take_of_le HLE.out;have:=(hq.blk gv (hl.symm▸e)).1;have:=hgv.out;have:=hgvh.out;omega)
       have r1:(r:Int)<=(r:Int):=by have h1:=VS2.out.stk.cap.1;have h2:=VS2.out.len;omega
       go_wp2
       go_region_held3 (λV=>V.cell? ⟨gv,0,none⟩=some (.int .i64 bk)/\V.cell? ⟨gv,1,none⟩=some (.int .i64 bn)/\V.cell? ⟨gv,2,none⟩=some (.string bs)) (first|exact ⟨y0,y1,y2⟩|exact ⟨bat ((Below.refl _ _).drew.alloc (Nat.le_refl _) _) hG8 y0,bat ((Below.refl _ _).drew.alloc (Nat.le_refl _) _) hG8 y1,bat ((Below.refl _ _).drew.alloc (Nat.le_refl _) _) hG8 y2⟩|exact ⟨(World.cell?_of_block (hfar9 _ (by simp;omega) HNE.out)).trans (bat ((Below.refl _ _).drew.alloc (Nat.le_refl _) _) hG8 y0),(World.cell?_of_block (hfar9 _ (by simp;omega) HNE.out)).trans (bat ((Below.refl _ _).drew.alloc (Nat.le_refl _) _) hG8 y1),(World.cell?_of_block (hfar9 _ (by simp;omega) HNE.out)).trans (bat ((Below.refl _ _).drew.alloc (Nat.le_refl _) _) hG8 y2)⟩) (first|(refine step_push (α:=Val) _ rfl (.tmp 102) (.tmp 104) 59 rfl w5.heap.size 74 i0 _ 32 Tryz.underlying59 hi hz0 hz1 hz2 rfl (by decide) B r r vs (VS8.out.stk.keep ((Below.refl _ _).drew.alloc (Nat.le_refl _) _)) HLE.out rfl ⟨bk,bn,bs⟩ HOK.out w8.heap.size rfl (oneAt_new _ _ _ _ rfl) (by omega) (by simp;omega) ?_;intro A' c' w9 hst9 hb9 hfar9;have HP:Hid (VSt 74 w5 w9 (vs.take r++[⟨bk,bn,bs⟩]) (r+1) A' c'):=hide ⟨hst9,(by rw[List.length_append,List.length_take,Nat.min_eq_left HLE.out];rfl),(VS8.out.below.drew.alloc (by simp;omega) _).trans hb9⟩))
       go_wp2
       go_roundw
       case rel=>exact ⟨k+1,r+1,hs',ks',_,A',c',by omega,by omega,by go_num,rfl,by rw[<-HBV.out];exact HRUN2.out,HP.out⟩
       case measure=>simp[intOf];omega
      ·cases hsp:isSpec x.op
       ·obtain ⟨an,hany⟩: ∃q,((vs.drop r).any λv=>v.kind==0)=q:=⟨_,rfl⟩
        cases an
        ·have HIN:Hid (In w2 B m 0 (vs.drop r)):=hide (by rw[List.drop_eq_nil_of_le (by rw[VS2.out.len];omega),hm0];exact Sl.empty (by omega) (λ_=>rfl))
         clear hm0
         go_wp2_with fail
         refine (special_any zs x SP.out.sh m SP.out.ar _ _ _ (vs.drop r) HIN.out).mono ?_
         rintro e w3 ⟨rfl,hb3⟩
         have N3:=hide (NodeAt.below NV.out hb3 z2)
         obtain ⟨p0,p1,p2,p3,p4,p5⟩:=N3.out
         have VS3:=hide (VS2.out.keep hb3)
         have HIN:=hide (HIN.out.below hb3)
         have hz3:wr.heap.size<w3.heap.size:=Nat.lt_of_lt_of_le z2 hb3.size
         have hgv:Hid (w2.heap.size<=w3.heap.size):=hide hb3.size
         clear hb3
         have q1:(x.op==1)=false:=by simpa using o1
         rw[spV_not hsp,hsp]
         simp only[nullV,Val.cells]
         obtain ⟨v0,hv0⟩: ∃v0,v0=w3.alloc (.cells #[.int .i64 0,.int .i64 0,.string ⟨#[]⟩] 74):=⟨_,rfl⟩
         have y0:v0.cell? ⟨w3.heap.size,0,none⟩=some (.int .i64 0):=by rw[hv0];simp[go_sem]
         have y1:v0.cell? ⟨w3.heap.size,1,none⟩=some (.int .i64 0):=by rw[hv0];simp[go_sem]
         have y2:v0.cell? ⟨w3.heap.size,2,none⟩=some (.string ⟨#[]⟩):=by rw[hv0];simp[go_sem]
         have F0:v0.frozen? ⟨w3.heap.size,0,none⟩=false:=by rw[hv0];simp[go_sem]
         have F1:v0.frozen? ⟨w3.heap.size,1,none⟩=false:=by rw[hv0];simp[go_sem]
         have F2:v0.frozen? ⟨w3.heap.size,2,none⟩=false:=by rw[hv0];simp[go_sem]
         have hv:Below w3.heap.size w3 v0:=by rw[hv0];exact below_alloc
         go_upto_region 22 with (fail)
         rw[<-hv0]
         clear hv0 p0 p1 p2 p3 p4 p5
         obtain ⟨p0,p1,p2,p3,p4,p5⟩:=NodeAt.below N3.out hv hz3
         have N0:=hide (NodeAt.below N3.out hv hz3)
         have HIN:=hide (HIN.out.below hv)
         have hgl:w3.heap.size<v0.heap.size:=lt_of_cell y0
         have hz0':wr.heap.size<v0.heap.size:=Nat.lt_of_lt_of_le hz3 hv.size
         have HV3:=hide hv
         obtain ⟨gv,hgvv⟩: ∃gv,w3.heap.size=gv:=⟨_,rfl⟩
         rw[hgvv]at y0 y1 y2 F0 F1 F2 hgl
         rw[hgvv]
         have hgvh:=hide hgvv
         have hnv:¬wr.heap.size=gv:=by omega
         clear hv hgvv
         go_wp2_with fail
         refine (containsNull_any _ _ _ _ (vs.drop r) HIN.out SP.out.val).mono ?_
         rintro e w4 ⟨rfl,hb4⟩
         have HIN:=hide (HIN.out.below hb4)
         obtain ⟨p0,p1,p2,p3,p4,p5⟩:=NodeAt.below N0.out hb4 hz0'
         have hz4:wr.heap.size<w4.heap.size:=Nat.lt_of_lt_of_le hz0' hb4.size
         have y0:=bat hb4 hgl y0
         have y1:=bat hb4 hgl y1
         have y2:=bat hb4 hgl y2
         have F0:=((bcell hb4).2 _ _ hgl).trans F0
         have F1:=((bcell hb4).2 _ _ hgl).trans F1
         have F2:=((bcell hb4).2 _ _ hgl).trans F2
         have HV4:=hide (below_trans HV3.out hb4)
         have hgl4:gv<w4.heap.size:=lt_of_cell y0
         clear hb4
         have hnn: ∀v∈vs.drop r,v.kind≠0:=by
          intro v hv h0
          have:=List.any_eq_false.1 hany v hv
          simp[h0]at this
         have HNN:=hide hnn
         have hany':=hany
         rw[hany]
         clear hany hany' hnn
         obtain ⟨bv,hbv⟩: ∃q,opV zs x (vs.drop r)=q:=⟨_,rfl⟩
         obtain ⟨bk,bn,bs⟩:=bv
         have HOV:=hide hbv
         clear hbv
         have HBV:Hid (nodeV cols row zs x (vs.drop r)=⟨bk,bn,bs⟩):=hide (by rw[node_not_col o1];exact HOV.out)
         have HOK:Hid (Flat.ok (α:=Val) ⟨bk,bn,bs⟩):=hide (by have h:=valid_ok SP.out.new;rw[HBV.out]at h;exact h)
         go_wp2_with fail
         refine (apply_any zs x SP.out.sh o1 SP.out.n21 hsp m SP.out.ar _ _ _ (vs.drop r) HIN.out SP.out.val HNN.out (λh2=>SP.out.bool h2 HNN.out) _ _ _ (hz.below (below_trans hbW (below_trans VS3.out.below HV4.out)))).mono ?_
         rintro e w6 ⟨rfl,hb6⟩
         rw[HOV.out]
         simp only[Val.cells]
         have y0:=bat hb6 hgl4 y0
         have y1:=bat hb6 hgl4 y1
         have y2:=bat hb6 hgl4 y2
         have F0:=((bcell hb6).2 _ _ hgl4).trans F0
         have F1:=((bcell hb6).2 _ _ hgl4).trans F1
         have F2:=((bcell hb6).2 _ _ hgl4).trans F2
         have HV6:=hide (below_trans HV4.out hb6)
         clear hb6
         go_wp2
         obtain ⟨w8,hw8⟩: ∃w8,w8=((w6.setCell ⟨gv,0,none⟩ (.int .i64 bk)).setCell ⟨gv,1,none⟩ (.int .i64 bn)).setCell ⟨gv,2,none⟩ (.string bs):=⟨_,rfl⟩
         have S:=set_three (v0:=.int .i64 bk) (v1:=.int .i64 bn) (v2:=.string bs) y0 y1 y2
         rw[<-hw8]at S
         rw[<-hw8]
         have VS8:Hid (VSt 74 w5 w8 vs (r+m) B r):=hide (VS3.out.keep (by rw[hw8];exact below_set3 HV6.out (Nat.le_of_eq hgvh.out) _ _ _))
         have y0:=S 0 _ rfl
         have y1:=S 1 _ rfl
         have y2:=S 2 _ rfl
         clear hw8 S p0 p1 p2 p3 p4 p5 F0 F1 F2
         have HLE:Hid (r<=vs.length):=hide (by rw[VS8.out.len];omega)
         have hszW:w5.heap.size<=w8.heap.size:=VS8.out.below.size
         have hG8:gv<w8.heap.size:=lt_of_cell y0
         have HNE:Hid ((Value.slice B r r).ownBlock≠some gv):=hide (λe=>by have hq:=VS2.out.stk.take HLE.out;have hl:(vs.take r).length=r:=List.length_take_of_le HLE.out;have:=(hq.blk gv (hl.symm▸e)).1;have:=hgv.out;have:=hgvh.out;omega)
         have r1:(r:Int)<=(r:Int):=by have h1:=VS2.out.stk.cap.1;have h2:=VS2.out.len;omega
         go_wp2
         go_region_held3 (λV=>V.cell? ⟨gv,0,none⟩=some (.int .i64 bk)/\V.cell? ⟨gv,1,none⟩=some (.int .i64 bn)/\V.cell? ⟨gv,2,none⟩=some (.string bs)) (first|exact ⟨y0,y1,y2⟩|exact ⟨bat ((Below.refl _ _).drew.alloc (Nat.le_refl _) _) hG8 y0,bat ((Below.refl _ _).drew.alloc (Nat.le_refl _) _) hG8 y1,bat ((Below.refl _ _).drew.alloc (Nat.le_refl _) _) hG8 y2⟩|exact ⟨(World.cell?_of_block (hfar9 _ (by simp;omega) HNE.out)).trans (bat ((Below.refl _ _).drew.alloc (Nat.le_refl _) _) hG8 y0),(World.cell?_of_block (hfar9 _ (by simp;omega) HNE.out)).trans (bat ((Below.refl _ _).drew.alloc (Nat.le_refl _) _) hG8 y1),(World.cell?_of_block (hfar9 _ (by simp;omega) HNE.out)).trans (bat ((Below.refl _ _).drew.alloc (Nat.le_refl _) _) hG8 y2)⟩) (first|(refine step_push (α:=Val) _ rfl (.tmp 102) (.tmp 104) 59 rfl w5.heap.size 74 i0 _ 32 Tryz.underlying59 hi hz0 hz1 hz2 rfl (by decide) B r r vs (VS8.out.stk.keep ((Below.refl _ _).drew.alloc (Nat.le_refl _) _)) HLE.out rfl ⟨bk,bn,bs⟩ HOK.out w8.heap.size rfl (oneAt_new _ _ _ _ rfl) (by omega) (by simp;omega) ?_;intro A' c' w9 hst9 hb9 hfar9;have HP:Hid (VSt 74 w5 w9 (vs.take r++[⟨bk,bn,bs⟩]) (r+1) A' c'):=hide ⟨hst9,(by rw[List.length_append,List.length_take,Nat.min_eq_left HLE.out];rfl),(VS8.out.below.drew.alloc (by simp;omega) _).trans hb9⟩))
         go_wp2
         go_roundw
         case rel=>exact ⟨k+1,r+1,hs',ks',_,A',c',by omega,by omega,by go_num,rfl,by rw[<-HBV.out];exact HRUN2.out,HP.out⟩
         case measure=>simp[intOf];omega
        ·have HIN:Hid (In w2 B m 0 (vs.drop r)):=hide (by rw[List.drop_eq_nil_of_le (by rw[VS2.out.len];omega),hm0];exact Sl.empty (by omega) (λ_=>rfl))
         clear hm0
         go_wp2_with fail
         refine (special_any zs x SP.out.sh m SP.out.ar _ _ _ (vs.drop r) HIN.out).mono ?_
         rintro e w3 ⟨rfl,hb3⟩
         have N3:=hide (NodeAt.below NV.out hb3 z2)
         obtain ⟨p0,p1,p2,p3,p4,p5⟩:=N3.out
         have VS3:=hide (VS2.out.keep hb3)
         have HIN:=hide (HIN.out.below hb3)
         have hz3:wr.heap.size<w3.heap.size:=Nat.lt_of_lt_of_le z2 hb3.size
         have hgv:Hid (w2.heap.size<=w3.heap.size):=hide hb3.size
         clear hb3
         have q1:(x.op==1)=false:=by simpa using o1
         rw[spV_not hsp,hsp]
         simp only[nullV,Val.cells]
         obtain ⟨v0,hv0⟩: ∃v0,v0=w3.alloc (.cells #[.int .i64 0,.int .i64 0,.string ⟨#[]⟩] 74):=⟨_,rfl⟩
         have y0:v0.cell? ⟨w3.heap.size,0,none⟩=some (.int .i64 0):=by rw[hv0];simp[go_sem]
         have y1:v0.cell? ⟨w3.heap.size,1,none⟩=some (.int .i64 0):=by rw[hv0];simp[go_sem]
         have y2:v0.cell? ⟨w3.heap.size,2,none⟩=some (.string ⟨#[]⟩):=by rw[hv0];simp[go_sem]
         have F0:v0.frozen? ⟨w3.heap.size,0,none⟩=false:=by rw[hv0];simp[go_sem]
         have F1:v0.frozen? ⟨w3.heap.size,1,none⟩=false:=by rw[hv0];simp[go_sem]
         have F2:v0.frozen? ⟨w3.heap.size,2,none⟩=false:=by rw[hv0];simp[go_sem]
         have hv:Below w3.heap.size w3 v0:=by rw[hv0];exact below_alloc
         go_upto_region 22 with (fail)
         rw[<-hv0]
         clear hv0 p0 p1 p2 p3 p4 p5
         obtain ⟨p0,p1,p2,p3,p4,p5⟩:=NodeAt.below N3.out hv hz3
         have N0:=hide (NodeAt.below N3.out hv hz3)
         have HIN:=hide (HIN.out.below hv)
         have hgl:w3.heap.size<v0.heap.size:=lt_of_cell y0
         have hz0':wr.heap.size<v0.heap.size:=Nat.lt_of_lt_of_le hz3 hv.size
         have HV3:=hide hv
         obtain ⟨gv,hgvv⟩: ∃gv,w3.heap.size=gv:=⟨_,rfl⟩
         rw[hgvv]at y0 y1 y2 F0 F1 F2 hgl
         rw[hgvv]
         have hgvh:=hide hgvv
         have hnv:¬wr.heap.size=gv:=by omega
         clear hv hgvv
         go_wp2_with fail
         refine (containsNull_any _ _ _ _ (vs.drop r) HIN.out SP.out.val).mono ?_
         rintro e w4 ⟨rfl,hb4⟩
         have HIN:=hide (HIN.out.below hb4)
         obtain ⟨p0,p1,p2,p3,p4,p5⟩:=NodeAt.below N0.out hb4 hz0'
         have hz4:wr.heap.size<w4.heap.size:=Nat.lt_of_lt_of_le hz0' hb4.size
         have y0:=bat hb4 hgl y0
         have y1:=bat hb4 hgl y1
         have y2:=bat hb4 hgl y2
         have F0:=((bcell hb4).2 _ _ hgl).trans F0
         have F1:=((bcell hb4).2 _ _ hgl).trans F1
         have F2:=((bcell hb4).2 _ _ hgl).trans F2
         have HV4:=hide (below_trans HV3.out hb4)
         have hgl4:gv<w4.heap.size:=lt_of_cell y0
         clear hb4
         have HBV0:Hid (nodeV cols row zs x (vs.drop r)=nullV):=hide (by rw[node_not_col o1];exact opV_null SP.out.sh o1 SP.out.n21 hsp SP.out.ar (by rw[List.length_drop,VS2.out.len];omega) hany)
         rw[hany]
         obtain ⟨bk,hbk⟩: ∃bk:Int,bk=0:=⟨_,rfl⟩
         obtain ⟨bn,hbn⟩: ∃bn:Int,bn=0:=⟨_,rfl⟩
         obtain ⟨bs,hbs⟩: ∃bs:ByteArray,bs=⟨#[]⟩:=⟨_,rfl⟩
         have HBV:Hid (nodeV cols row zs x (vs.drop r)=⟨bk,bn,bs⟩):=hide (by rw[HBV0.out,hbk,hbn,hbs];rfl)
         have HOK:Hid (Flat.ok (α:=Val) ⟨bk,bn,bs⟩):=hide (by have h:=valid_ok SP.out.new;rw[HBV.out]at h;exact h)
         have y0:w4.cell? ⟨gv,0,none⟩=some (.int .i64 bk):=by rw[hbk];exact y0
         have y1:w4.cell? ⟨gv,1,none⟩=some (.int .i64 bn):=by rw[hbn];exact y1
         have y2:w4.cell? ⟨gv,2,none⟩=some (.string bs):=by rw[hbs];exact y2
         clear hbk hbn hbs hany
         go_wp2
         obtain ⟨w8,hw8⟩: ∃w8,w4=w8:=⟨_,rfl⟩
         subst hw8
         have VS8:Hid (VSt 74 w5 w4 vs (r+m) B r):=hide (VS3.out.keep HV4.out)
         clear p0 p1 p2 p3 p4 p5 F0 F1 F2
         have HLE:Hid (r<=vs.length):=hide (by rw[VS8.out.len];omega)
         have hszW:w5.heap.size<=w4.heap.size:=VS8.out.below.size
         have hG8:gv<w4.heap.size:=lt_of_cell y0
         have HNE:Hid ((Value.slice B r r).ownBlock≠some gv):=hide (λe=>by have hq:=VS2.out.stk.take HLE.out;have hl:(vs.take r).length=r:=List.length_take_of_le HLE.out;have:=(hq.blk gv (hl.symm▸e)).1;have:=hgv.out;have:=hgvh.out;omega)
         have r1:(r:Int)<=(r:Int):=by have h1:=VS2.out.stk.cap.1;have h2:=VS2.out.len;omega
         go_wp2
         go_region_held3 (λV=>V.cell? ⟨gv,0,none⟩=some (.int .i64 bk)/\V.cell? ⟨gv,1,none⟩=some (.int .i64 bn)/\V.cell? ⟨gv,2,none⟩=some (.string bs)) (first|exact ⟨y0,y1,y2⟩|exact ⟨bat ((Below.refl _ _).drew.alloc (Nat.le_refl _) _) hG8 y0,bat ((Below.refl _ _).drew.alloc (Nat.le_refl _) _) hG8 y1,bat ((Below.refl _ _).drew.alloc (Nat.le_refl _) _) hG8 y2⟩|exact ⟨(World.cell?_of_block (hfar9 _ (by simp;omega) HNE.out)).trans (bat ((Below.refl _ _).drew.alloc (Nat.le_refl _) _) hG8 y0),(World.cell?_of_block (hfar9 _ (by simp;omega) HNE.out)).trans (bat ((Below.refl _ _).drew.alloc (Nat.le_refl _) _) hG8 y1),(World.cell?_of_block (hfar9 _ (by simp;omega) HNE.out)).trans (bat ((Below.refl _ _).drew.alloc (Nat.le_refl _) _) hG8 y2)⟩) (first|(refine step_push (α:=Val) _ rfl (.tmp 102) (.tmp 104) 59 rfl w5.heap.size 74 i0 _ 32 Tryz.underlying59 hi hz0 hz1 hz2 rfl (by decide) B r r vs (VS8.out.stk.keep ((Below.refl _ _).drew.alloc (Nat.le_refl _) _)) HLE.out rfl ⟨bk,bn,bs⟩ HOK.out w4.heap.size rfl (oneAt_new _ _ _ _ rfl) (by omega) (by simp;omega) ?_;intro A' c' w9 hst9 hb9 hfar9;have HP:Hid (VSt 74 w5 w9 (vs.take r++[⟨bk,bn,bs⟩]) (r+1) A' c'):=hide ⟨hst9,(by rw[List.length_append,List.length_take,Nat.min_eq_left HLE.out];rfl),(VS8.out.below.drew.alloc (by simp;omega) _).trans hb9⟩))
         go_wp2
         go_roundw
         case rel=>exact ⟨k+1,r+1,hs',ks',_,A',c',by omega,by omega,by go_num,rfl,by rw[<-HBV.out];exact HRUN2.out,HP.out⟩
         case measure=>simp[intOf];omega
       ·have HIN:Hid (In w2 B m 0 (vs.drop r)):=hide (by rw[List.drop_eq_nil_of_le (by rw[VS2.out.len];omega),hm0];exact Sl.empty (by omega) (λ_=>rfl))
        clear hm0
        go_wp2_with fail
        refine (special_any zs x SP.out.sh m SP.out.ar _ _ _ (vs.drop r) HIN.out).mono ?_
        rintro e w3 ⟨rfl,hb3⟩
        have N3:=hide (NodeAt.below NV.out hb3 z2)
        obtain ⟨p0,p1,p2,p3,p4,p5⟩:=N3.out
        have VS3:=hide (VS2.out.keep hb3)
        have HIN:=hide (HIN.out.below hb3)
        have hz3:wr.heap.size<w3.heap.size:=Nat.lt_of_lt_of_le z2 hb3.size
        have hgv:Hid (w2.heap.size<=w3.heap.size):=hide hb3.size
        clear hb3
        have q1:(x.op==1)=false:=by simpa using o1
        obtain ⟨sv,hsv⟩: ∃q,spV zs x (vs.drop r)=q:=⟨_,rfl⟩
        obtain ⟨bk,bn,bs⟩:=sv
        have HSV:=hide hsv
        rw[hsv]
        simp only[Val.cells]
        clear hsv
        obtain ⟨v0,hv0⟩: ∃v0,v0=w3.alloc (.cells #[.int .i64 bk,.int .i64 bn,.string bs] 74):=⟨_,rfl⟩
        have y0:v0.cell? ⟨w3.heap.size,0,none⟩=some (.int .i64 bk):=by rw[hv0];simp[go_sem]
        have y1:v0.cell? ⟨w3.heap.size,1,none⟩=some (.int .i64 bn):=by rw[hv0];simp[go_sem]
        have y2:v0.cell? ⟨w3.heap.size,2,none⟩=some (.string bs):=by rw[hv0];simp[go_sem]
        have F0:v0.frozen? ⟨w3.heap.size,0,none⟩=false:=by rw[hv0];simp[go_sem]
        have F1:v0.frozen? ⟨w3.heap.size,1,none⟩=false:=by rw[hv0];simp[go_sem]
        have F2:v0.frozen? ⟨w3.heap.size,2,none⟩=false:=by rw[hv0];simp[go_sem]
        have hv:Below w3.heap.size w3 v0:=by rw[hv0];exact below_alloc
        have HBV:Hid (nodeV cols row zs x (vs.drop r)=⟨bk,bn,bs⟩):=hide (by rw[node_not_col o1,<-spV_special hsp,HSV.out])
        have HOK:Hid (Flat.ok (α:=Val) ⟨bk,bn,bs⟩):=hide (by have h:=valid_ok SP.out.new;rw[HBV.out]at h;exact h)
        rw[hsp]
        go_upto_region 22 with (fail)
        rw[<-hv0]
        clear hv0 p0 p1 p2 p3 p4 p5
        obtain ⟨p0,p1,p2,p3,p4,p5⟩:=NodeAt.below N3.out hv hz3
        have N0:=hide (NodeAt.below N3.out hv hz3)
        have HIN:=hide (HIN.out.below hv)
        have hgl:w3.heap.size<v0.heap.size:=lt_of_cell y0
        have hz0':wr.heap.size<v0.heap.size:=Nat.lt_of_lt_of_le hz3 hv.size
        have HV3:=hide hv
        obtain ⟨gv,hgvv⟩: ∃gv,w3.heap.size=gv:=⟨_,rfl⟩
        rw[hgvv]at y0 y1 y2 F0 F1 F2 hgl
        rw[hgvv]
        have hgvh:=hide hgvv
        have hnv:¬wr.heap.size=gv:=by omega
        clear hv hgvv
        go_wp2
        obtain ⟨w8,hw8⟩: ∃w8,v0=w8:=⟨_,rfl⟩
        subst hw8
        have VS8:Hid (VSt 74 w5 v0 vs (r+m) B r):=hide (VS3.out.keep HV3.out)
        clear p0 p1 p2 p3 p4 p5 F0 F1 F2
        have HLE:Hid (r<=vs.length):=hide (by rw[VS8.out.len];omega)
        have hszW:w5.heap.size<=v0.heap.size:=VS8.out.below.size
        have hG8:gv<v0.heap.size:=lt_of_cell y0
        have HNE:Hid ((Value.slice B r r).ownBlock≠some gv):=hide (λe=>by have hq:=VS2.out.stk.take HLE.out;have hl:(vs.take r).length=r:=List.length_take_of_le HLE.out;have:=(hq.blk gv (hl.symm▸e)).1;have:=hgv.out;have:=hgvh.out;omega)
        have r1:(r:Int)<=(r:Int):=by have h1:=VS2.out.stk.cap.1;have h2:=VS2.out.len;omega
        go_wp2
        go_region_held3 (λV=>V.cell? ⟨gv,0,none⟩=some (.int .i64 bk)/\V.cell? ⟨gv,1,none⟩=some (.int .i64 bn)/\V.cell? ⟨gv,2,none⟩=some (.string bs)) (first|exact ⟨y0,y1,y2⟩|exact ⟨bat ((Below.refl _ _).drew.alloc (Nat.le_refl _) _) hG8 y0,bat ((Below.refl _ _).drew.alloc (Nat.le_refl _) _) hG8 y1,bat ((Below.refl _ _).drew.alloc (Nat.le_refl _) _) hG8 y2⟩|exact ⟨(World.cell?_of_block (hfar9 _ (by simp;omega) HNE.out)).trans (bat ((Below.refl _ _).drew.alloc (Nat.le_refl _) _) hG8 y0),(World.cell?_of_block (hfar9 _ (by simp;omega) HNE.out)).trans (bat ((Below.refl _ _).drew.alloc (Nat.le_refl _) _) hG8 y1),(World.cell?_of_block (hfar9 _ (by simp;omega) HNE.out)).trans (bat ((Below.refl _ _).drew.alloc (Nat.le_refl _) _) hG8 y2)⟩) (first|(refine step_push (α:=Val) _ rfl (.tmp 102) (.tmp 104) 59 rfl w5.heap.size 74 i0 _ 32 Tryz.underlying59 hi hz0 hz1 hz2 rfl (by decide) B r r vs (VS8.out.stk.keep ((Below.refl _ _).drew.alloc (Nat.le_refl _) _)) HLE.out rfl ⟨bk,bn,bs⟩ HOK.out v0.heap.size rfl (oneAt_new _ _ _ _ rfl) (by omega) (by simp;omega) ?_;intro A' c' w9 hst9 hb9 hfar9;have HP:Hid (VSt 74 w5 w9 (vs.take r++[⟨bk,bn,bs⟩]) (r+1) A' c'):=hide ⟨hst9,(by rw[List.length_append,List.length_take,Nat.min_eq_left HLE.out];rfl),(VS8.out.below.drew.alloc (by simp;omega) _).trans hb9⟩))
        go_wp2
        go_roundw
        case rel=>exact ⟨k+1,r+1,hs',ks',_,A',c',by omega,by omega,by go_num,rfl,by rw[<-HBV.out];exact HRUN2.out,HP.out⟩
        case measure=>simp[intOf];omega
     ·by_cases o1:x.op=1
      ·have HIN:Hid (In w2 (some ⟨g,r*3,none⟩) m (cb-r) (vs.drop r)):=hide hin
       clear hin
       have H1:=hide o1
       clear o1
       go_wp2_with fail
       refine (special_any zs x SP.out.sh m SP.out.ar _ _ _ (vs.drop r) HIN.out).mono ?_
       rintro e w3 ⟨rfl,hb3⟩
       have N3:=hide (NodeAt.below NV.out hb3 z2)
       obtain ⟨p0,p1,p2,p3,p4,p5⟩:=N3.out
       have VS3:=hide (VS2.out.keep hb3)
       have HIN:=hide (HIN.out.below hb3)
       have hz3:wr.heap.size<w3.heap.size:=Nat.lt_of_lt_of_le z2 hb3.size
       have hgv:Hid (w2.heap.size<=w3.heap.size):=hide hb3.size
       clear hb3
       have q1:(x.op==1)=true:=by simpa using H1.out
       obtain ⟨sv,hsv⟩: ∃q,spV zs x (vs.drop r)=q:=⟨_,rfl⟩
       obtain ⟨sk,sn,ss⟩:=sv
       have HSV:=hide hsv
       rw[hsv]
       simp only[Val.cells]
       clear hsv
       obtain ⟨v0,hv0⟩: ∃v0,v0=w3.alloc (.cells #[.int .i64 sk,.int .i64 sn,.string ss] 74):=⟨_,rfl⟩
       have y0:v0.cell? ⟨w3.heap.size,0,none⟩=some (.int .i64 sk):=by rw[hv0];simp[go_sem]
       have y1:v0.cell? ⟨w3.heap.size,1,none⟩=some (.int .i64 sn):=by rw[hv0];simp[go_sem]
       have y2:v0.cell? ⟨w3.heap.size,2,none⟩=some (.string ss):=by rw[hv0];simp[go_sem]
       have F0:v0.frozen? ⟨w3.heap.size,0,none⟩=false:=by rw[hv0];simp[go_sem]
       have F1:v0.frozen? ⟨w3.heap.size,1,none⟩=false:=by rw[hv0];simp[go_sem]
       have F2:v0.frozen? ⟨w3.heap.size,2,none⟩=false:=by rw[hv0];simp[go_sem]
       have hv:Below w3.heap.size w3 v0:=by rw[hv0];exact below_alloc
       obtain ⟨bv,hbv⟩: ∃q,row.getD (index cols x.name).toNat nullV=q:=⟨_,rfl⟩
       obtain ⟨bk,bn,bs⟩:=bv
       have HBV:Hid (nodeV cols row zs x (vs.drop r)=⟨bk,bn,bs⟩):=hide (by rw[nodeV,if_pos H1.out];exact hbv)
       have HOK:Hid (Flat.ok (α:=Val) ⟨bk,bn,bs⟩):=hide (by have h:=valid_ok SP.out.new;rw[HBV.out]at h;exact h)
       have HLK:Hid ((Instr.lookup 159 (.map (some gm)) (.string x.name) false).run Tryz.prog v0=.ok (.agg #[.int .i64 bk,.int .i64 bn,.string bs]) v0):=hide (by
        exact look_name ((M.out.below VS3.out.below).below hv) (by rw[hc.len,hr.len]) (SP.out.col H1.out).2.1 hbv)
       clear hbv
       go_upto_region 21 with (fail)
       rw[<-hv0]
       clear hv0 p0 p1 p2 p3 p4 p5
       obtain ⟨p0,p1,p2,p3,p4,p5⟩:=NodeAt.below N3.out hv hz3
       have N0:=hide (NodeAt.below N3.out hv hz3)
       have HIN:=hide (HIN.out.below hv)
       have hgl:w3.heap.size<v0.heap.size:=lt_of_cell y0
       have hz0':wr.heap.size<v0.heap.size:=Nat.lt_of_lt_of_le hz3 hv.size
       have HV3:=hide hv
       obtain ⟨gv,hgvv⟩: ∃gv,w3.heap.size=gv:=⟨_,rfl⟩
       rw[hgvv]at y0 y1 y2 F0 F1 F2 hgl
       rw[hgvv]
       have hgvh:=hide hgvv
       have hnv:¬wr.heap.size=gv:=by omega
       clear hv hgvv
       have hlook:=HLK.out
       go_wp2
       obtain ⟨w8,hw8⟩: ∃w8,w8=((v0.setCell ⟨gv,0,none⟩ (.int .i64 bk)).setCell ⟨gv,1,none⟩ (.int .i64 bn)).setCell ⟨gv,2,none⟩ (.string bs):=⟨_,rfl⟩
       have S:=set_three (v0:=.int .i64 bk) (v1:=.int .i64 bn) (v2:=.string bs) y0 y1 y2
       rw[<-hw8]at S
       rw[<-hw8]
       have VS8:Hid (VSt 74 w5 w8 vs (r+m) (some ⟨g,0,none⟩) cb):=hide (VS3.out.keep (by rw[hw8];exact below_set3 HV3.out (Nat.le_of_eq hgvh.out) _ _ _))
       have y0:=S 0 _ rfl
       have y1:=S 1 _ rfl
       have y2:=S 2 _ rfl
       clear hw8 S p0 p1 p2 p3 p4 p5 F0 F1 F2
       clear hlook
       have HLE:Hid (r<=vs.length):=hide (by rw[VS8.out.len];omega)
       have hszW:w5.heap.size<=w8.heap.size:=VS8.out.below.size
       have hG8:gv<w8.heap.size:=lt_of_cell y0
       have HNE:Hid ((Value.slice (some ⟨g,0,none⟩) r cb).ownBlock≠some gv):=hide (λe=>by have hq:=VS2.out.stk.take HLE.out;have hl:(vs.take r).length=r:=List.length_take_of_le HLE.out;have:=(hq.blk gv (hl.symm▸e)).1;have:=hgv.out;have:=hgvh.out;omega)
       have r1:(r:Int)<=(cb:Int):=by have h1:=VS2.out.stk.cap.1;have h2:=VS2.out.len;omega
       go_wp2
       go_region_held3 (λV=>V.cell? ⟨gv,0,none⟩=some (.int .i64 bk)/\V.cell? ⟨gv,1,none⟩=some (.int .i64 bn)/\V.cell? ⟨gv,2,none⟩=some (.string bs)) (first|exact ⟨y0,y1,y2⟩|exact ⟨bat ((Below.refl _ _).drew.alloc (Nat.le_refl _) _) hG8 y0,bat ((Below.refl _ _).drew.alloc (Nat.le_refl _) _) hG8 y1,bat ((Below.refl _ _).drew.alloc (Nat.le_refl _) _) hG8 y2⟩|exact ⟨(World.cell?_of_block (hfar9 _ (by simp;omega) HNE.out)).trans (bat ((Below.refl _ _).drew.alloc (Nat.le_refl _) _) hG8 y0),(World.cell?_of_block (hfar9 _ (by simp;omega) HNE.out)).trans (bat ((Below.refl _ _).drew.alloc (Nat.le_refl _) _) hG8 y1),(World.cell?_of_block (hfar9 _ (by simp;omega) HNE.out)).trans (bat ((Below.refl _ _).drew.alloc (Nat.le_refl _) _) hG8 y2)⟩) (first|(refine step_push (α:=Val) _ rfl (.tmp 102) (.tmp 104) 59 rfl w5.heap.size 74 i0 _ 32 Tryz.underlying59 hi hz0 hz1 hz2 rfl (by decide) (some ⟨g,0,none⟩) cb r vs (VS8.out.stk.keep ((Below.refl _ _).drew.alloc (Nat.le_refl _) _)) HLE.out rfl ⟨bk,bn,bs⟩ HOK.out w8.heap.size rfl (oneAt_new _ _ _ _ rfl) (by omega) (by simp;omega) ?_;intro A' c' w9 hst9 hb9 hfar9;have HP:Hid (VSt 74 w5 w9 (vs.take r++[⟨bk,bn,bs⟩]) (r+1) A' c'):=hide ⟨hst9,(by rw[List.length_append,List.length_take,Nat.min_eq_left HLE.out];rfl),(VS8.out.below.drew.alloc (by simp;omega) _).trans hb9⟩))
       go_wp2
       go_roundw
       case rel=>exact ⟨k+1,r+1,hs',ks',_,A',c',by omega,by omega,by go_num,rfl,by rw[<-HBV.out];exact HRUN2.out,HP.out⟩
       case measure=>simp[intOf];omega
      ·cases hsp:isSpec x.op
       ·obtain ⟨an,hany⟩: ∃q,((vs.drop r).any λv=>v.kind==0)=q:=⟨_,rfl⟩
        cases an
        ·have HIN:Hid (In w2 (some ⟨g,r*3,none⟩) m (cb-r) (vs.drop r)):=hide hin
         clear hin
         go_wp2_with fail
         refine (special_any zs x SP.out.sh m SP.out.ar _ _ _ (vs.drop r) HIN.out).mono ?_
         rintro e w3 ⟨rfl,hb3⟩
         have N3:=hide (NodeAt.below NV.out hb3 z2)
         obtain ⟨p0,p1,p2,p3,p4,p5⟩:=N3.out
         have VS3:=hide (VS2.out.keep hb3)
         have HIN:=hide (HIN.out.below hb3)
         have hz3:wr.heap.size<w3.heap.size:=Nat.lt_of_lt_of_le z2 hb3.size
         have hgv:Hid (w2.heap.size<=w3.heap.size):=hide hb3.size
         clear hb3
         have q1:(x.op==1)=false:=by simpa using o1
         rw[spV_not hsp,hsp]
         simp only[nullV,Val.cells]
         obtain ⟨v0,hv0⟩: ∃v0,v0=w3.alloc (.cells #[.int .i64 0,.int .i64 0,.string ⟨#[]⟩] 74):=⟨_,rfl⟩
         have y0:v0.cell? ⟨w3.heap.size,0,none⟩=some (.int .i64 0):=by rw[hv0];simp[go_sem]
         have y1:v0.cell? ⟨w3.heap.size,1,none⟩=some (.int .i64 0):=by rw[hv0];simp[go_sem]
         have y2:v0.cell? ⟨w3.heap.size,2,none⟩=some (.string ⟨#[]⟩):=by rw[hv0];simp[go_sem]
         have F0:v0.frozen? ⟨w3.heap.size,0,none⟩=false:=by rw[hv0];simp[go_sem]
         have F1:v0.frozen? ⟨w3.heap.size,1,none⟩=false:=by rw[hv0];simp[go_sem]
         have F2:v0.frozen? ⟨w3.heap.size,2,none⟩=false:=by rw[hv0];simp[go_sem]
         have hv:Below w3.heap.size w3 v0:=by rw[hv0];exact below_alloc
         go_upto_region 22 with (fail)
         rw[<-hv0]
         clear hv0 p0 p1 p2 p3 p4 p5
         obtain ⟨p0,p1,p2,p3,p4,p5⟩:=NodeAt.below N3.out hv hz3
         have N0:=hide (NodeAt.below N3.out hv hz3)
         have HIN:=hide (HIN.out.below hv)
         have hgl:w3.heap.size<v0.heap.size:=lt_of_cell y0
         have hz0':wr.heap.size<v0.heap.size:=Nat.lt_of_lt_of_le hz3 hv.size
         have HV3:=hide hv
         obtain ⟨gv,hgvv⟩: ∃gv,w3.heap.size=gv:=⟨_,rfl⟩
         rw[hgvv]at y0 y1 y2 F0 F1 F2 hgl
         rw[hgvv]
         have hgvh:=hide hgvv
         have hnv:¬wr.heap.size=gv:=by omega
         clear hv hgvv
         go_wp2_with fail
         refine (containsNull_any _ _ _ _ (vs.drop r) HIN.out SP.out.val).mono ?_
         rintro e w4 ⟨rfl,hb4⟩
         have HIN:=hide (HIN.out.below hb4)
         obtain ⟨p0,p1,p2,p3,p4,p5⟩:=NodeAt.below N0.out hb4 hz0'
         have hz4:wr.heap.size<w4.heap.size:=Nat.lt_of_lt_of_le hz0' hb4.size
         have y0:=bat hb4 hgl y0
         have y1:=bat hb4 hgl y1
         have y2:=bat hb4 hgl y2
         have F0:=((bcell hb4).2 _ _ hgl).trans F0
         have F1:=((bcell hb4).2 _ _ hgl).trans F1
         have F2:=((bcell hb4).2 _ _ hgl).trans F2
         have HV4:=hide (below_trans HV3.out hb4)
         have hgl4:gv<w4.heap.size:=lt_of_cell y0
         clear hb4
         have hnn: ∀v∈vs.drop r,v.kind≠0:=by
          intro v hv h0
          have:=List.any_eq_false.1 hany v hv
          simp[h0]at this
         have HNN:=hide hnn
         have hany':=hany
         rw[hany]
         clear hany hany' hnn
         obtain ⟨bv,hbv⟩: ∃q,opV zs x (vs.drop r)=q:=⟨_,rfl⟩
         obtain ⟨bk,bn,bs⟩:=bv
         have HOV:=hide hbv
         clear hbv
         have HBV:Hid (nodeV cols row zs x (vs.drop r)=⟨bk,bn,bs⟩):=hide (by rw[node_not_col o1];exact HOV.out)
         have HOK:Hid (Flat.ok (α:=Val) ⟨bk,bn,bs⟩):=hide (by have h:=valid_ok SP.out.new;rw[HBV.out]at h;exact h)
         go_wp2_with fail
         refine (apply_any zs x SP.out.sh o1 SP.out.n21 hsp m SP.out.ar _ _ _ (vs.drop r) HIN.out SP.out.val HNN.out (λh2=>SP.out.bool h2 HNN.out) _ _ _ (hz.below (below_trans hbW (below_trans VS3.out.below HV4.out)))).mono ?_
         rintro e w6 ⟨rfl,hb6⟩
         rw[HOV.out]
         simp only[Val.cells]
         have y0:=bat hb6 hgl4 y0
         have y1:=bat hb6 hgl4 y1
         have y2:=bat hb6 hgl4 y2
         have F0:=((bcell hb6).2 _ _ hgl4).trans F0
         have F1:=((bcell hb6).2 _ _ hgl4).trans F1
         have F2:=((bcell hb6).2 _ _ hgl4).trans F2
         have HV6:=hide (below_trans HV4.out hb6)
         clear hb6
         go_wp2
         obtain ⟨w8,hw8⟩: ∃w8,w8=((w6.setCell ⟨gv,0,none⟩ (.int .i64 bk)).setCell ⟨gv,1,none⟩ (.int .i64 bn)).setCell ⟨gv,2,none⟩ (.string bs):=⟨_,rfl⟩
         have S:=set_three (v0:=.int .i64 bk) (v1:=.int .i64 bn) (v2:=.string bs) y0 y1 y2
         rw[<-hw8]at S
         rw[<-hw8]
         have VS8:Hid (VSt 74 w5 w8 vs (r+m) (some ⟨g,0,none⟩) cb):=hide (VS3.out.keep (by rw[hw8];exact below_set3 HV6.out (Nat.le_of_eq hgvh.out) _ _ _))
         have y0:=S 0 _ rfl
         have y1:=S 1 _ rfl
         have y2:=S 2 _ rfl
         clear hw8 S p0 p1 p2 p3 p4 p5 F0 F1 F2
         have HLE:Hid (r<=vs.length):=hide (by rw[VS8.out.len];omega)
         have hszW:w5.heap.size<=w8.heap.size:=VS8.out.below.size
         have hG8:gv<w8.heap.size:=lt_of_cell y0
         have HNE:Hid ((Value.slice (some ⟨g,0,none⟩) r cb).ownBlock≠some gv):=hide (λe=>by have hq:=VS2.out.stk.take HLE.out;have hl:(vs.take r).length=r:=List.length_take_of_le HLE.out;have:=(hq.blk gv (hl.symm▸e)).1;have:=hgv.out;have:=hgvh.out;omega)
         have r1:(r:Int)<=(cb:Int):=by have h1:=VS2.out.stk.cap.1;have h2:=VS2.out.len;omega
         go_wp2
         go_region_held3 (λV=>V.cell? ⟨gv,0,none⟩=some (.int .i64 bk)/\V.cell? ⟨gv,1,none⟩=some (.int .i64 bn)/\V.cell? ⟨gv,2,none⟩=some (.string bs)) (first|exact ⟨y0,y1,y2⟩|exact ⟨bat ((Below.refl _ _).drew.alloc (Nat.le_refl _) _) hG8 y0,bat ((Below.refl _ _).drew.alloc (Nat.le_refl _) _) hG8 y1,bat ((Below.refl _ _).drew.alloc (Nat.le_refl _) _) hG8 y2⟩|exact ⟨(World.cell?_of_block (hfar9 _ (by simp;omega) HNE.out)).trans (bat ((Below.refl _ _).drew.alloc (Nat.le_refl _) _) hG8 y0),(World.cell?_of_block (hfar9 _ (by simp;omega) HNE.out)).trans (bat ((Below.refl _ _).drew.alloc (Nat.le_refl _) _) hG8 y1),(World.cell?_of_block (hfar9 _ (by simp;omega) HNE.out)).trans (bat ((Below.refl _ _).drew.alloc (Nat.le_refl _) _) hG8 y2)⟩) (first|(refine step_push (α:=Val) _ rfl (.tmp 102) (.tmp 104) 59 rfl w5.heap.size 74 i0 _ 32 Tryz.underlying59 hi hz0 hz1 hz2 rfl (by decide) (some ⟨g,0,none⟩) cb r vs (VS8.out.stk.keep ((Below.refl _ _).drew.alloc (Nat.le_refl _) _)) HLE.out rfl ⟨bk,bn,bs⟩ HOK.out w8.heap.size rfl (oneAt_new _ _ _ _ rfl) (by omega) (by simp;omega) ?_;intro A' c' w9 hst9 hb9 hfar9;have HP:Hid (VSt 74 w5 w9 (vs.take r++[⟨bk,bn,bs⟩]) (r+1) A' c'):=hide ⟨hst9,(by rw[List.length_append,List.length_take,Nat.min_eq_left HLE.out];rfl),(VS8.out.below.drew.alloc (by simp;omega) _).trans hb9⟩))
         go_wp2
         go_roundw
         case rel=>exact ⟨k+1,r+1,hs',ks',_,A',c',by omega,by omega,by go_num,rfl,by rw[<-HBV.out];exact HRUN2.out,HP.out⟩
         case measure=>simp[intOf];omega
        ·have HIN:Hid (In w2 (some ⟨g,r*3,none⟩) m (cb-r) (vs.drop r)):=hide hin
         clear hin
         go_wp2_with fail
         refine (special_any zs x SP.out.sh m SP.out.ar _ _ _ (vs.drop r) HIN.out).mono ?_
         rintro e w3 ⟨rfl,hb3⟩
         have N3:=hide (NodeAt.below NV.out hb3 z2)
         obtain ⟨p0,p1,p2,p3,p4,p5⟩:=N3.out
         have VS3:=hide (VS2.out.keep hb3)
         have HIN:=hide (HIN.out.below hb3)
         have hz3:wr.heap.size<w3.heap.size:=Nat.lt_of_lt_of_le z2 hb3.size
         have hgv:Hid (w2.heap.size<=w3.heap.size):=hide hb3.size
         clear hb3
         have q1:(x.op==1)=false:=by simpa using o1
         rw[spV_not hsp,hsp]
         simp only[nullV,Val.cells]
         obtain ⟨v0,hv0⟩: ∃v0,v0=w3.alloc (.cells #[.int .i64 0,.int .i64 0,.string ⟨#[]⟩] 74):=⟨_,rfl⟩
         have y0:v0.cell? ⟨w3.heap.size,0,none⟩=some (.int .i64 0):=by rw[hv0];simp[go_sem]
         have y1:v0.cell? ⟨w3.heap.size,1,none⟩=some (.int .i64 0):=by rw[hv0];simp[go_sem]
         have y2:v0.cell? ⟨w3.heap.size,2,none⟩=some (.string ⟨#[]⟩):=by rw[hv0];simp[go_sem]
         have F0:v0.frozen? ⟨w3.heap.size,0,none⟩=false:=by rw[hv0];simp[go_sem]
         have F1:v0.frozen? ⟨w3.heap.size,1,none⟩=false:=by rw[hv0];simp[go_sem]
         have F2:v0.frozen? ⟨w3.heap.size,2,none⟩=false:=by rw[hv0];simp[go_sem]
         have hv:Below w3.heap.size w3 v0:=by rw[hv0];exact below_alloc
         go_upto_region 22 with (fail)
         rw[<-hv0]
         clear hv0 p0 p1 p2 p3 p4 p5
         obtain ⟨p0,p1,p2,p3,p4,p5⟩:=NodeAt.below N3.out hv hz3
         have N0:=hide (NodeAt.below N3.out hv hz3)
         have HIN:=hide (HIN.out.below hv)
         have hgl:w3.heap.size<v0.heap.size:=lt_of_cell y0
         have hz0':wr.heap.size<v0.heap.size:=Nat.lt_of_lt_of_le hz3 hv.size
         have HV3:=hide hv
         obtain ⟨gv,hgvv⟩: ∃gv,w3.heap.size=gv:=⟨_,rfl⟩
         rw[hgvv]at y0 y1 y2 F0 F1 F2 hgl
         rw[hgvv]
         have hgvh:=hide hgvv
         have hnv:¬wr.heap.size=gv:=by omega
         clear hv hgvv
         go_wp2_with fail
         refine (containsNull_any _ _ _ _ (vs.drop r) HIN.out SP.out.val).mono ?_
         rintro e w4 ⟨rfl,hb4⟩
         have HIN:=hide (HIN.out.below hb4)
         obtain ⟨p0,p1,p2,p3,p4,p5⟩:=NodeAt.below N0.out hb4 hz0'
         have hz4:wr.heap.size<w4.heap.size:=Nat.lt_of_lt_of_le hz0' hb4.size
         have y0:=bat hb4 hgl y0
         have y1:=bat hb4 hgl y1
         have y2:=bat hb4 hgl y2
         have F0:=((bcell hb4).2 _ _ hgl).trans F0
         have F1:=((bcell hb4).2 _ _ hgl).trans F1
         have F2:=((bcell hb4).2 _ _ hgl).trans F2
         have HV4:=hide (below_trans HV3.out hb4)
         have hgl4:gv<w4.heap.size:=lt_of_cell y0
         clear hb4
         have HBV0:Hid (nodeV cols row zs x (vs.drop r)=nullV):=hide (by rw[node_not_col o1];exact opV_null SP.out.sh o1 SP.out.n21 hsp SP.out.ar (by rw[List.length_drop,VS2.out.len];omega) hany)
         rw[hany]
         obtain ⟨bk,hbk⟩: ∃bk:Int,bk=0:=⟨_,rfl⟩
         obtain ⟨bn,hbn⟩: ∃bn:Int,bn=0:=⟨_,rfl⟩
         obtain ⟨bs,hbs⟩: ∃bs:ByteArray,bs=⟨#[]⟩:=⟨_,rfl⟩
         have HBV:Hid (nodeV cols row zs x (vs.drop r)=⟨bk,bn,bs⟩):=hide (by rw[HBV0.out,hbk,hbn,hbs];rfl)
         have HOK:Hid (Flat.ok (α:=Val) ⟨bk,bn,bs⟩):=hide (by have h:=valid_ok SP.out.new;rw[HBV.out]at h;exact h)
         have y0:w4.cell? ⟨gv,0,none⟩=some (.int .i64 bk):=by rw[hbk];exact y0
         have y1:w4.cell? ⟨gv,1,none⟩=some (.int .i64 bn):=by rw[hbn];exact y1
         have y2:w4.cell? ⟨gv,2,none⟩=some (.string bs):=by rw[hbs];exact y2
         clear hbk hbn hbs hany
         go_wp2
         obtain ⟨w8,hw8⟩: ∃w8,w4=w8:=⟨_,rfl⟩
         subst hw8
         have VS8:Hid (VSt 74 w5 w4 vs (r+m) (some ⟨g,0,none⟩) cb):=hide (VS3.out.keep HV4.out)
         clear p0 p1 p2 p3 p4 p5 F0 F1 F2
         have HLE:Hid (r<=vs.length):=hide (by rw[VS8.out.len];omega)
         have hszW:w5.heap.size<=w4.heap.size:=VS8.out.below.size
         have hG8:gv<w4.heap.size:=lt_of_cell y0
         have HNE:Hid ((Value.slice (some ⟨g,0,none⟩) r cb).ownBlock≠some gv):=hide (λe=>by have hq:=VS2.out.stk.take HLE.out;have hl:(vs.take r).length=r:=List.length_take_of_le HLE.out;have:=(hq.blk gv (hl.symm▸e)).1;have:=hgv.out;have:=hgvh.out;omega)
         have r1:(r:Int)<=(cb:Int):=by have h1:=VS2.out.stk.cap.1;have h2:=VS2.out.len;omega
         go_wp2
         go_region_held3 (λV=>V.cell? ⟨gv,0,none⟩=some (.int .i64 bk)/\V.cell? ⟨gv,1,none⟩=some (.int .i64 bn)/\V.cell? ⟨gv,2,none⟩=some (.string bs)) (first|exact ⟨y0,y1,y2⟩|exact ⟨bat ((Below.refl _ _).drew.alloc (Nat.le_refl _) _) hG8 y0,bat ((Below.refl _ _).drew.alloc (Nat.le_refl _) _) hG8 y1,bat ((Below.refl _ _).drew.alloc (Nat.le_refl _) _) hG8 y2⟩|exact ⟨(World.cell?_of_block (hfar9 _ (by simp;omega) HNE.out)).trans (bat ((Below.refl _ _).drew.alloc (Nat.le_refl _) _) hG8 y0),(World.cell?_of_block (hfar9 _ (by simp;omega) HNE.out)).trans (bat ((Below.refl _ _).drew.alloc (Nat.le_refl _) _) hG8 y1),(World.cell?_of_block (hfar9 _ (by simp;omega) HNE.out)).trans (bat ((Below.refl _ _).drew.alloc (Nat.le_refl _) _) hG8 y2)⟩) (first|(refine step_push (α:=Val) _ rfl (.tmp 102) (.tmp 104) 59 rfl w5.heap.size 74 i0 _ 32 Tryz.underlying59 hi hz0 hz1 hz2 rfl (by decide) (some ⟨g,0,none⟩) cb r vs (VS8.out.stk.keep ((Below.refl _ _).drew.alloc (Nat.le_refl _) _)) HLE.out rfl ⟨bk,bn,bs⟩ HOK.out w4.heap.size rfl (oneAt_new _ _ _ _ rfl) (by omega) (by simp;omega) ?_;intro A' c' w9 hst9 hb9 hfar9;have HP:Hid (VSt 74 w5 w9 (vs.take r++[⟨bk,bn,bs⟩]) (r+1) A' c'):=hide ⟨hst9,(by rw[List.length_append,List.length_take,Nat.min_eq_left HLE.out];rfl),(VS8.out.below.drew.alloc (by simp;omega) _).trans hb9⟩))
         go_wp2
         go_roundw
         case rel=>exact ⟨k+1,r+1,hs',ks',_,A',c',by omega,by omega,by go_num,rfl,by rw[<-HBV.out];exact HRUN2.out,HP.out⟩
         case measure=>simp[intOf];omega
       ·have HIN:Hid (In w2 (some ⟨g,r*3,none⟩) m (cb-r) (vs.drop r)):=hide hin
        clear hin
        go_wp2_with fail
        refine (special_any zs x SP.out.sh m SP.out.ar _ _ _ (vs.drop r) HIN.out).mono ?_
        rintro e w3 ⟨rfl,hb3⟩
        have N3:=hide (NodeAt.below NV.out hb3 z2)
        obtain ⟨p0,p1,p2,p3,p4,p5⟩:=N3.out
        have VS3:=hide (VS2.out.keep hb3)
        have HIN:=hide (HIN.out.below hb3)
        have hz3:wr.heap.size<w3.heap.size:=Nat.lt_of_lt_of_le z2 hb3.size
        have hgv:Hid (w2.heap.size<=w3.heap.size):=hide hb3.size
        clear hb3
        have q1:(x.op==1)=false:=by simpa using o1
        obtain ⟨sv,hsv⟩: ∃q,spV zs x (vs.drop r)=q:=⟨_,rfl⟩
        obtain ⟨bk,bn,bs⟩:=sv
        have HSV:=hide hsv
        rw[hsv]
        simp only[Val.cells]
        clear hsv
        obtain ⟨v0,hv0⟩: ∃v0,v0=w3.alloc (.cells #[.int .i64 bk,.int .i64 bn,.string bs] 74):=⟨_,rfl⟩
        have y0:v0.cell? ⟨w3.heap.size,0,none⟩=some (.int .i64 bk):=by rw[hv0];simp[go_sem]
        have y1:v0.cell? ⟨w3.heap.size,1,none⟩=some (.int .i64 bn):=by rw[hv0];simp[go_sem]
        have y2:v0.cell? ⟨w3.heap.size,2,none⟩=some (.string bs):=by rw[hv0];simp[go_sem]
        have F0:v0.frozen? ⟨w3.heap.size,0,none⟩=false:=by rw[hv0];simp[go_sem]
        have F1:v0.frozen? ⟨w3.heap.size,1,none⟩=false:=by rw[hv0];simp[go_sem]
        have F2:v0.frozen? ⟨w3.heap.size,2,none⟩=false:=by rw[hv0];simp[go_sem]
        have hv:Below w3.heap.size w3 v0:=by rw[hv0];exact below_alloc
        have HBV:Hid (nodeV cols row zs x (vs.drop r)=⟨bk,bn,bs⟩):=hide (by rw[node_not_col o1,<-spV_special hsp,HSV.out])
        have HOK:Hid (Flat.ok (α:=Val) ⟨bk,bn,bs⟩):=hide (by have h:=valid_ok SP.out.new;rw[HBV.out]at h;exact h)
        rw[hsp]
        go_upto_region 22 with (fail)
        rw[<-hv0]
        clear hv0 p0 p1 p2 p3 p4 p5
        obtain ⟨p0,p1,p2,p3,p4,p5⟩:=NodeAt.below N3.out hv hz3
        have N0:=hide (NodeAt.below N3.out hv hz3)
        have HIN:=hide (HIN.out.below hv)
        have hgl:w3.heap.size<v0.heap.size:=lt_of_cell y0
        have hz0':wr.heap.size<v0.heap.size:=Nat.lt_of_lt_of_le hz3 hv.size
        have HV3:=hide hv
        obtain ⟨gv,hgvv⟩: ∃gv,w3.heap.size=gv:=⟨_,rfl⟩
        rw[hgvv]at y0 y1 y2 F0 F1 F2 hgl
        rw[hgvv]
        have hgvh:=hide hgvv
        have hnv:¬wr.heap.size=gv:=by omega
        clear hv hgvv
        go_wp2
        obtain ⟨w8,hw8⟩: ∃w8,v0=w8:=⟨_,rfl⟩
        subst hw8
        have VS8:Hid (VSt 74 w5 v0 vs (r+m) (some ⟨g,0,none⟩) cb):=hide (VS3.out.keep HV3.out)
        clear p0 p1 p2 p3 p4 p5 F0 F1 F2
        have HLE:Hid (r<=vs.length):=hide (by rw[VS8.out.len];omega)
        have hszW:w5.heap.size<=v0.heap.size:=VS8.out.below.size
        have hG8:gv<v0.heap.size:=lt_of_cell y0
        have HNE:Hid ((Value.slice (some ⟨g,0,none⟩) r cb).ownBlock≠some gv):=hide (λe=>by have hq:=VS2.out.stk.take HLE.out;have hl:(vs.take r).length=r:=List.length_take_of_le HLE.out;have:=(hq.blk gv (hl.symm▸e)).1;have:=hgv.out;have:=hgvh.out;omega)
        have r1:(r:Int)<=(cb:Int):=by have h1:=VS2.out.stk.cap.1;have h2:=VS2.out.len;omega
        go_wp2
        go_region_held3 (λV=>V.cell? ⟨gv,0,none⟩=some (.int .i64 bk)/\V.cell? ⟨gv,1,none⟩=some (.int .i64 bn)/\V.cell? ⟨gv,2,none⟩=some (.string bs)) (first|exact ⟨y0,y1,y2⟩|exact ⟨bat ((Below.refl _ _).drew.alloc (Nat.le_refl _) _) hG8 y0,bat ((Below.refl _ _).drew.alloc (Nat.le_refl _) _) hG8 y1,bat ((Below.refl _ _).drew.alloc (Nat.le_refl _) _) hG8 y2⟩|exact ⟨(World.cell?_of_block (hfar9 _ (by simp;omega) HNE.out)).trans (bat ((Below.refl _ _).drew.alloc (Nat.le_refl _) _) hG8 y0),(World.cell?_of_block (hfar9 _ (by simp;omega) HNE.out)).trans (bat ((Below.refl _ _).drew.alloc (Nat.le_refl _) _) hG8 y1),(World.cell?_of_block (hfar9 _ (by simp;omega) HNE.out)).trans (bat ((Below.refl _ _).drew.alloc (Nat.le_refl _) _) hG8 y2)⟩) (first|(refine step_push (α:=Val) _ rfl (.tmp 102) (.tmp 104) 59 rfl w5.heap.size 74 i0 _ 32 Tryz.underlying59 hi hz0 hz1 hz2 rfl (by decide) (some ⟨g,0,none⟩) cb r vs (VS8.out.stk.keep ((Below.refl _ _).drew.alloc (Nat.le_refl _) _)) HLE.out rfl ⟨bk,bn,bs⟩ HOK.out v0.heap.size rfl (oneAt_new _ _ _ _ rfl) (by omega) (by simp;omega) ?_;intro A' c' w9 hst9 hb9 hfar9;have HP:Hid (VSt 74 w5 w9 (vs.take r++[⟨bk,bn,bs⟩]) (r+1) A' c'):=hide ⟨hst9,(by rw[List.length_append,List.length_take,Nat.min_eq_left HLE.out];rfl),(VS8.out.below.drew.alloc (by simp;omega) _).trans hb9⟩))
        go_wp2
        go_roundw
        case rel=>exact ⟨k+1,r+1,hs',ks',_,A',c',by omega,by omega,by go_num,rfl,by rw[<-HBV.out];exact HRUN2.out,HP.out⟩
        case measure=>simp[intOf];omega
    ·have HX:=hide (drop_end hx.len (show n<=k by omega))
     obtain ⟨rfl,y,rfl,hy⟩:=Run.last HQ.out HX.out
     have HIN:Hid (In wr B 1 cb [y]):=hide VS.out.stk.inn
     obtain ⟨b3,off3,y',rfl,hB3,HY,y0,y1,y2,yok⟩:=HIN.out.val (show 0<1 by omega)
     have hyy:y=y':=by have:=HY.out;simp at this;exact this
     subst hyy
     simp only[Nat.zero_mul,Nat.add_zero]at y0 y1 y2
     have HVL:=hide hy
     obtain ⟨yk,yn,ys⟩:=y
     obtain ⟨z0,z1,z2,f0,f1,f2,_⟩:=(Z.out.below VS.out.below)
     have hzb:¬b3=w.heap.size:=by have h:=VS.out.stk.blk b3 (by rw[VS.out.len];rfl);have h2:=Z.out.lt;omega
     have k0:(0:Int)<(1:Int):=by omega
     clear hy
     go_wp2
     refine bodyPost_ret (v:=.tuple #[.agg (Val.cells ⟨yk,yn,ys⟩).toArray,.int .i64 (0)]) (results_cells2 (cs:=Val.cells ⟨yk,yn,ys⟩) rfl _ _ w.heap.size _ _ rfl rfl (set_three z0 z1 z2) Tryz.underlying74 rfl (by kernel_rfl)) rfl ⟨by rw[HN.out,HVL.out],below_set3 (below_trans hbW VS.out.below) (Nat.le_refl _) _ _ _⟩
end Go.Proofs.YtggejcekmehocaaGreatDoor
