/-
  scalar.Type: it returns typeS. (Printed by gen_type.py.)
-/
import Derived.Test.YtggejcekmehocaaGreatDoorGat
namespace Go.Proofs.YtggejcekmehocaaGreatDoor
set_option maxHeartbeats 40000000
set_option maxRecDepth 100000
open Go.RowKit
set_option linter.unusedSimpArgs false
set_option linter.unusedVariables false
theorem kd_info:(Tryz.prog.info? 190).map (λi=>(i.zero,i.size,i.bytes))=some (some (.agg #[.int .i64 0,.bool false]),2,16):=by kernel_rfl
structure KSt (T:TypeId) (w wr:World) (st:List Kd) (d:Nat) (A:Option Addr) (c:Nat):Prop where
 stk:Stk w.heap.size wr T A c st
 len:st.length=d
 below:Below w.heap.size w wr
theorem KSt.keep {T:TypeId}{w wr w':World}{st:List Kd}{d:Nat}{A:Option Addr}{c:Nat}(h:KSt T w wr st d A c)(hb:Below wr.heap.size wr w'):KSt T w w' st d A c:=
 ⟨h.stk.keep hb,h.len,below_trans h.below hb⟩
theorem indexFrom_range (name:ByteArray): ∀(l:List Col) (k:Nat),indexFrom name k l= -1\/((k:Int)<=indexFrom name k l/\indexFrom name k l<k+l.length)
 | [],k=>.inl rfl
 |z :: l,k=>by
  rw[indexFrom]
  split
  ·exact .inr ⟨by omega,by simp;omega⟩
  ·rcases indexFrom_range name l (k+1) with h|h
   ·exact .inl h
   ·exact .inr ⟨by omega,by simp;omega⟩
theorem below_set2 {B c:Nat}{a w:World}(h:Below B a w)(hB:B<=c)(u v:Value):Below B a ((w.setCell ⟨c,0,none⟩ u).setCell ⟨c,1,none⟩ v):=(h.setCell hB u).setCell hB v
theorem opKd_i64 {x:Node}{l:List Kd}(hx:x.ok)(hl: ∀k∈l,I64 k.kind){r:Nat}:I64 (opKd x (l.drop r)).1.kind:=by
 have h1:I64 1:=by unfold I64;omega
 have h2:I64 2:=by unfold I64;omega
 have h3:I64 3:=by unfold I64;omega
 have h4:I64 4:=by unfold I64;omega
 have hl': ∀k∈l.drop r,I64 k.kind:=λk hk=>hl k (List.mem_of_mem_drop hk)
 revert hl'
 generalize l.drop r=q
 intro hl'
 match q,hl' with
 | [],_=>exact hx.2.1.1
 | [a],_=>simp only[opKd,unKd];(repeat' split) <;> assumption
 | [a,b],hl'=>
  have ha:=hl' a (by simp)
  have hb:=hl' b (by simp)
  simp only[opKd,binKd,common]
  (repeat' split) <;> first|assumption|(simp only;(repeat' split) <;> assumption)
 |a :: b :: c :: _,hl'=>
  have hb:=hl' b (by simp)
  have hc:=hl' c (by simp)
  simp only[opKd,common]
  (repeat' split) <;> assumption
theorem checkErr_zero {es:List Node}{cols:List Col}{zs:List Zone}(h:checkErr es cols zs=0):exprErr es=0:=by
 rw[checkErr]at h
 split at h
 ·omega
 ·rename_i q;omega
theorem typeLoop_err {cols:List Col}{zs:List Zone}{st:List Kd}{x:Node}{l:List Node}{r m:Nat}{e:Int}(hm:arity x.op x.arity=(m:Int))(hl:st.length=r+m)(h:(nodeKd cols zs x (st.drop r)).1=e)(he:e≠0):
  typeLoop cols zs st (x :: l)=(e,default):=by
 rw[typeLoop,hl,restOf_eq hm,if_pos (by rw[h];exact he),h]
theorem typeLoop_ok {cols:List Col}{zs:List Zone}{st:List Kd}{x:Node}{l:List Node}{r m:Nat}{k:Kd}(hm:arity x.op x.arity=(m:Int))(hl:st.length=r+m)(h:nodeKd cols zs x (st.drop r)=(0,k)):
  typeLoop cols zs st (x :: l)=typeLoop cols zs (st.take r++[k]) l:=by
 rw[typeLoop,hl,restOf_eq hm,h,if_neg (by simp)]
theorem type_any (w:World)(A:Option Addr)(n c:Nat)(es:List Node)(hx:In w A n c es)(hw:Words w)(A1:Option Addr)(n1 c1:Nat)(cols:List Col)(hc:In w A1 n1 c1 cols)(A2:Option Addr)(n2 c2:Nat)(zs:List Zone)(hz:In w A2 n2 c2 zs):
  Calls Tryz.prog 141 #[.slice A n c,.slice A1 n1 c1,.slice A2 n2 c2] w λe w'=>e=.returned (.tuple #[.int .i64 (typeS es cols zs).2.kind,.bool (typeS es cols zs).2.null,.int .i64 (typeS es cols zs).1])/\Below w.heap.size w w':=by
 have h63:=hx.le
 have h64:=hc.le
 obtain ⟨i0,hi,hz0,hz1,hz2⟩:=info_parts kd_info
 go_enter Tryz.func141,Tryz.ntmps141
 go_wp2_with fail
 refine (check_any _ _ _ _ es hx hw _ _ _ cols hc _ _ _ zs hz).mono ?_
 rintro e w1 ⟨rfl,hb1⟩
 by_cases h0:¬checkErr es cols zs=0
 ·have HN:Hid (typeS es cols zs=(checkErr es cols zs,default)):=hide (by rw[typeS,if_pos h0])
  have q:(checkErr es cols zs != 0)=true:=by simpa using h0
  clear h0
  go_wp2
  go_ret3
  exact ⟨by rw[HN.out];rfl,hb1⟩
 replace h0:checkErr es cols zs=0:=by omega
 have HT:Hid (typeS es cols zs=typeLoop cols zs [] es):=hide (by rw[typeS,if_neg (by simp[h0])])
 have HE:=hide (exprErr_loop (checkErr_zero h0))
 have hn256:n<=256:=by have:=HE.out.1;rw[hx.len]at this;exact this
 rw[h0]
 clear h0
 go_wp2
 go_loopw [10,28] (λv i wr=> ∃(k d:Nat) (st:List Kd) (hs:List Int) (B:Option Addr) (cb:Nat),k<=n/\d<=k/\i=.int .i64 k/\v=.slice B d cb/\(typeLoop cols zs [] es=typeLoop cols zs st (es.drop k)/\hs.length=d/\exprLoop hs (es.drop k)=0)/\KSt 190 w wr st d B cb) (λ_ i _=>n-(intOf i).toNat)
 case atStart=>exact ⟨0,0,[],[],none,0,Nat.zero_le _,Nat.zero_le _,rfl,rfl,⟨rfl,rfl,HE.out.2⟩,⟨Stk.nil_ _ _ _,rfl,hb1⟩⟩
 case round=>
  obtain ⟨k,d,st,hs,B,cb,hk,hdk,rfl,rfl,heq,hst⟩:=hrel
  have HQ:=hide heq
  have HST:=hide hst
  clear heq hst
  by_cases hlt:k<n
  ·obtain ⟨b,off,x,rfl,hB,HX,f0,f1,f2,f3,f4,f5,hok⟩:=(hx.below HST.out.below).node hlt
   have NA:=hide (NodeAt.made wr x)
   have HV:Hid (exprLoop hs (x :: es.drop (k+1))=0):=hide (by rw[<-HX.out];exact HQ.out.2.2)
   obtain ⟨m,r,hs',hsh,hm,hm8,rfl,hl',hx'⟩:=exprLoop_inv HV.out HQ.out.2.1
   have HM:=hide hm
   have HSH:=hide hsh
   have HL':=hide hl'
   have HX':=hide hx'
   clear hm hsh hl' hx' HV
   go_wp2_with fail
   refine (arity_any x _).mono ?_
   rintro e w2 ⟨rfl,hb2⟩
   rw[HM.out]
   obtain ⟨g0,g1,g2,g3,g4,g5⟩:=NA.out.below hb2 (by simp)
   have HST2:=hide ((HST.out.keep below_alloc).keep hb2)
   have z2:wr.heap.size<w2.heap.size:=by have:=hb2.size;simp at this;omega
   clear hb2 f0 f1 f2 f3 f4 f5
   by_cases o1:x.op=1
   ·have q1:(x.op==1)=true:=by simpa using o1
    have HO:=hide o1
    clear o1
    go_wp2_with fail
    refine (index_any _ _ _ _ cols (hc.below (below_trans HST2.out.below below_alloc)) x.name).mono ?_
    rintro e w3 ⟨rfl,hb3⟩
    have hb3':=below_trans (below_alloc (w:=w2)) hb3
    rcases indexFrom_range x.name cols 0 with hr|⟨hr1,hr2⟩
    ·have HN:Hid (typeS es cols zs=(5,default)):=hide (by rw[HT.out,HQ.out.1,HX.out,typeLoop_err HM.out HST.out.len (e:=5) (by rw[nodeKd,if_pos HO.out,if_pos (by rw[index,hr];omega)]) (by omega)])
     rw[show index cols x.name= -1 from hr]
     clear hr
     go_wp2
     go_ret3
     exact ⟨by rw[HN.out];rfl,below_trans HST2.out.below hb3'⟩
    ·obtain ⟨j,hj⟩: ∃j:Nat,index cols x.name=(j:Int):=⟨(index cols x.name).toNat,by rw[index];omega⟩
     have hjn:j<n1:=by have:=hc.len;rw[index]at hj;omega
     obtain ⟨b',off',y,rfl,hB',HY,v0,v1,v2,yok⟩:=hc.col hjn
     have hw3:=below_trans HST2.out.below hb3'
     have v1':=bat hw3 hB' v1
     have v2':=bat hw3 hB' v2
     have u0:=bat (b:=w2.heap.size) (o:=0) (v:=.int .i64 0) hb3 (by simp) (by simp[go_sem])
     have u1:=bat (b:=w2.heap.size) (o:=1) (v:=.bool false) hb3 (by simp) (by simp[go_sem])
     have F0:=(bcell hb3).2 w2.heap.size 0 (by simp)
     have F1:=(bcell hb3).2 w2.heap.size 1 (by simp)
     simp[go_sem]at F0 F1
     have hne:¬b'=w2.heap.size:=by have:=HST2.out.below.size;omega
     have HND:Hid (nodeKd cols zs x (st.drop r)=(0,⟨y.kind,y.nullable⟩)):=hide (by
      have hy:cols.getD (index cols x.name).toNat default=y:=by rw[hj,Int.toNat_natCast,List.getD,(drop_get HY.out).1];rfl
      rw[nodeKd,if_pos HO.out,if_neg (by rw[hj];omega),hy])
     have k0:(0:Int)<=(j:Int):=by omega
     have k1:(j:Int)<(n1:Int):=by omega
     rw[hj]
     have HB3:=hide hb3'
     clear hr1 hr2 hj hb3 hb3' v0 v1 v2
     go_wp2
     first|(go_region_held3 (λV=>V.cell? ⟨b',off'+j*3+1,none⟩=some (.int .i64 y.kind)/\V.cell? ⟨b',off'+j*3+2,none⟩=some (.bool y.nullable)) (first|exact ⟨v1',v2'⟩|exact ⟨set_far (set_far v1' (.inl hne)) (.inl hne),set_far (set_far v2' (.inl hne)) (.inl hne)⟩) (first|fail))|fail
     obtain ⟨w4,hw4⟩: ∃w4,w4=((w3.setCell ⟨w2.heap.size,0,none⟩ (.int .i64 y.kind)).setCell ⟨w2.heap.size,1,none⟩ (.bool y.nullable)).drew:=⟨_,rfl⟩
     have hx4:Below w2.heap.size w2 w4:=by rw[hw4];exact ((HB3.out.setCell (by simp) _).setCell (by simp) _).drew
     obtain ⟨S0,S1⟩:=made_two u0 u1
     have u0':w4.cell? ⟨w2.heap.size,0,none⟩=some (.int .i64 y.kind):=by rw[hw4];exact (World.cell?_setCell_other (w3.setCell ⟨w2.heap.size,0,none⟩ (.int .i64 y.kind)) ⟨w2.heap.size,1,none⟩ ⟨w2.heap.size,0,none⟩ _ (by intro e;injection e with _ e _;omega)).trans (S0 _)
     have u1':w4.cell? ⟨w2.heap.size,1,none⟩=some (.bool y.nullable):=by rw[hw4];exact S1 _ _
     clear S0 S1 u0 u1 F0 F1 v1' v2' hne
     rw[<-hw4]
     clear hw4
     have u0:=u0'
     have u1:=u1'
     clear u0' u1'
     have HN:Hid (typeLoop cols zs [] es=typeLoop cols zs (st.take r++[⟨y.kind,y.nullable⟩]) (es.drop (k+1))):=hide (by rw[HQ.out.1,HX.out,typeLoop_ok HM.out HST.out.len (k:=⟨y.kind,y.nullable⟩) (HND.out)])
     have HSTW:=hide (HST2.out.keep hx4)
     have HLE:Hid (r<=st.length):=hide (by rw[HST.out.len];omega)
     have hszW:w.heap.size<=w4.heap.size:=HSTW.out.below.size
     have hG4:w2.heap.size<w4.heap.size:=lt_of_cell u0
     have HNE:Hid ((Value.slice B r cb).ownBlock≠some w2.heap.size):=hide (λe=>by have hq:=HST2.out.stk.take HLE.out;have hl:(st.take r).length=r:=List.length_take_of_le HLE.out;have:=hq.blk w2.heap.size (hl.symm▸e);omega)
     have r0:(0:Int)<=(r:Int):=by omega
     have r1:(r:Int)<=(cb:Int):=by have h1:=HST.out.stk.cap.1;have h2:=HST.out.len;omega
     clear hx4
     go_wp2
     go_region_held3 (λV=>V.cell? ⟨w2.heap.size,0,none⟩=some (.int .i64 y.kind)/\V.cell? ⟨w2.heap.size,1,none⟩=some (.bool y.nullable)) (first|exact ⟨u0,u1⟩|exact ⟨bat ((Below.refl _ _).drew.alloc (Nat.le_refl _) _) hG4 u0,bat ((Below.refl _ _).drew.alloc (Nat.le_refl _) _) hG4 u1⟩|exact ⟨(World.cell?_of_block (hfar5 _ (by simp;omega) HNE.out)).trans (bat ((Below.refl _ _).drew.alloc (Nat.le_refl _) _) hG4 u0),(World.cell?_of_block (hfar5 _ (by simp;omega) HNE.out)).trans (bat ((Below.refl _ _).drew.alloc (Nat.le_refl _) _) hG4 u1)⟩) (first|(refine step_push (α:=Kd) _ rfl (.tmp 92) (.tmp 94) 188 rfl w.heap.size 190 i0 _ 16 Tryz.underlying188 hi hz0 hz1 hz2 rfl (by decide) B cb r st (HSTW.out.stk.keep ((Below.refl _ _).drew.alloc (Nat.le_refl _) _)) HLE.out rfl ⟨y.kind,y.nullable⟩ yok.2 w4.heap.size rfl (oneAt_new _ _ _ _ rfl) (by omega) (by simp;omega) ?_;intro A' c' w5 hst5 hb5 hfar5;have HP:Hid (KSt 190 w w5 (st.take r++[⟨y.kind,y.nullable⟩]) (r+1) A' c'):=hide ⟨hst5,(by rw[List.length_append,List.length_take,Nat.min_eq_left HLE.out];rfl),(HSTW.out.below.drew.alloc (by simp;omega) _).trans hb5⟩))
     go_wp2
     go_roundw
     case rel=>exact ⟨k+1,r+1,_,hs',A',c',by omega,by omega,by go_num,rfl,⟨HN.out,HL'.out,HX'.out⟩,HP.out⟩
     case measure=>simp[intOf];omega
   ·have q1:(x.op==1)=false:=by simpa using o1
    by_cases o2:x.op=21
    ·have q2:(x.op==21)=true:=by simpa using o2
     have HN:Hid (typeS es cols zs=(5,default)):=hide (by rw[HT.out,HQ.out.1,HX.out,typeLoop_err HM.out HST.out.len (e:=5) (by rw[nodeKd,if_neg o1,if_pos o2]) (by omega)])
     clear o1 o2
     go_wp2
     go_ret3
     exact ⟨by rw[HN.out];rfl,below_trans HST2.out.below below_alloc⟩
    ·have q2:(x.op==21)=false:=by simpa using o2
     by_cases o3:x.op=20
     ·have q3:(x.op==20)=true:=by simpa using o3
      have HO3:=hide o3
      clear o3
      go_wp2_with fail
      refine (find_any _ _ _ _ zs (hz.below (below_trans HST2.out.below below_alloc)) x.name).mono ?_
      rintro e w3 ⟨⟨A3,n3,c3,rfl,hin3,ho3⟩,hb3⟩
      have hb3':=below_trans (below_alloc (w:=w2)) hb3
      cases hzd:decide (0<=zoneIx zs x.name)
      ·have HN:Hid (typeS es cols zs=(5,default)):=hide (by rw[HT.out,HQ.out.1,HX.out,typeLoop_err HM.out HST.out.len (e:=5) (by rw[nodeKd,if_neg o1,if_neg o2,if_pos ⟨HO3.out,by simp at hzd;omega⟩]) (by omega)])
       go_wp2
       go_ret3
       exact ⟨by rw[HN.out];rfl,below_trans (below_trans HST2.out.below hb3') below_alloc⟩
      ·obtain ⟨v0,hv0⟩: ∃v0,v0=w3.alloc (.cells #[.string (zoneAt zs x.name).name,.int .i64 (zoneAt zs x.name).offset,.slice A3 n3 c3] 101):=⟨_,rfl⟩
       have hx0:Below w2.heap.size w2 v0:=by rw[hv0];exact below_trans hb3' below_alloc
       have hl3:w2.heap.size<w3.heap.size:=by have:=hb3.size;simp at this;omega
       have u0:v0.cell? ⟨w2.heap.size,0,none⟩=some (.int .i64 0):=by rw[hv0];exact bat below_alloc hl3 (bat hb3 (by simp) (by simp[go_sem]))
       have u1:v0.cell? ⟨w2.heap.size,1,none⟩=some (.bool false):=by rw[hv0];exact bat below_alloc hl3 (bat hb3 (by simp) (by simp[go_sem]))
       have F0:v0.frozen? ⟨w2.heap.size,0,none⟩=false:=by rw[hv0,(bcell below_alloc).2 _ _ hl3,(bcell hb3).2 _ _ (by simp)];simp[go_sem]
       have F1:v0.frozen? ⟨w2.heap.size,1,none⟩=false:=by rw[hv0,(bcell below_alloc).2 _ _ hl3,(bcell hb3).2 _ _ (by simp)];simp[go_sem]
       go_upto_region 23 with (fail)
       rw[<-hv0]
       clear hv0 hb3 hb3' hin3 ho3
       have hz0w:w2.heap.size<=v0.heap.size:=hx0.size
       have hzw:wr.heap.size<v0.heap.size:=by omega
       have hG0:w2.heap.size<v0.heap.size:=lt_of_cell u0
       have hnw:¬wr.heap.size=w2.heap.size:=by omega
       have NV:Hid (NodeAt v0 wr.heap.size x):=hide (NodeAt.below ⟨g0,g1,g2,g3,g4,g5⟩ hx0 z2)
       obtain ⟨h0,h1,h2,h3,h4,h5⟩:=NV.out
       have r0:(0:Int)<=(r:Int):=by omega
       have r2:(r:Int)<=(r:Int)+(m:Int):=by omega
       clear g0 g1 g2 g3 g4 g5
       cases hok2:(opKd x (st.drop r)).2
       ·rcases ops_of HST2.out.stk HST2.out.len with ⟨rfl,hm0⟩|⟨hcb,g,rfl,hin⟩
        ·have HIN:Hid (In v0.drew B m 0 (st.drop r)):=hide (by rw[List.drop_eq_nil_of_le (by rw[HST.out.len];omega),hm0];exact Sl.empty (by omega) (λ_=>rfl))
         clear hm0
         go_wp2
         go_region_held3 (λV=>V.cell? ⟨wr.heap.size,0,none⟩=some (.int .i64 x.op)/\V.cell? ⟨wr.heap.size,1,none⟩=some (.int .i64 x.value.kind)/\V.cell? ⟨wr.heap.size,2,none⟩=some (.int .i64 x.value.num)/\V.cell? ⟨wr.heap.size,3,none⟩=some (.string x.value.str)/\V.cell? ⟨wr.heap.size,4,none⟩=some (.string x.name)/\V.cell? ⟨wr.heap.size,5,none⟩=some (.int .i64 x.arity)) (first|exact ⟨h0,h1,h2,h3,h4,h5⟩|exact ⟨k0,k1,k2,k3,k4,k5⟩|exact ⟨set_far (set_far k0 (.inl hnw)) (.inl hnw),set_far (set_far k1 (.inl hnw)) (.inl hnw),set_far (set_far k2 (.inl hnw)) (.inl hnw),set_far (set_far k3 (.inl hnw)) (.inl hnw),set_far (set_far k4 (.inl hnw)) (.inl hnw),set_far (set_far k5 (.inl hnw)) (.inl hnw)⟩) (first|(go_at_call 173;refine (typed_any x HSH.out o1 o2 m HM.out _ _ _ (st.drop r) HIN.out).mono ?_;rintro e w5 ⟨rfl,hb5⟩;have hq5:=below_undrew hb5;have hx5:=hx0.trans (hq5.mono hz0w);obtain ⟨k0,k1,k2,k3,k4,k5⟩:=NodeAt.below NV.out hq5 hzw;have u0':=bat hq5 hG0 u0;have u1':=bat hq5 hG0 u1;have F0':=((bcell hq5).2 _ _ hG0).trans F0;have F1':=((bcell hq5).2 _ _ hG0).trans F1;clear hb5 hq5))
         have HN:Hid (typeS es cols zs=(7,default)):=hide (by rw[HT.out,HQ.out.1,HX.out,typeLoop_err HM.out HST.out.len (e:=7) (by rw[nodeKd,if_neg o1,if_neg o2,if_neg (λh=>absurd h.2 (by simp at hzd;omega)),if_pos hok2]) (by omega)])
         go_wp2
         go_ret3
         exact ⟨by rw[HN.out];rfl,below_set2 (HST2.out.below.trans (hx5.mono HST2.out.below.size)) HST2.out.below.size _ _⟩
        ·have HIN:Hid (In v0.drew (some ⟨g,r*2,none⟩) m (cb-r) (st.drop r)):=hide ((hin.below hx0).below (Below.refl _ _).drew)
         clear hin
         go_wp2
         go_region_held3 (λV=>V.cell? ⟨wr.heap.size,0,none⟩=some (.int .i64 x.op)/\V.cell? ⟨wr.heap.size,1,none⟩=some (.int .i64 x.value.kind)/\V.cell? ⟨wr.heap.size,2,none⟩=some (.int .i64 x.value.num)/\V.cell? ⟨wr.heap.size,3,none⟩=some (.string x.value.str)/\V.cell? ⟨wr.heap.size,4,none⟩=some (.string x.name)/\V.cell? ⟨wr.heap.size,5,none⟩=some (.int .i64 x.arity)) (first|exact ⟨h0,h1,h2,h3,h4,h5⟩|exact ⟨k0,k1,k2,k3,k4,k5⟩|exact ⟨set_far (set_far k0 (.inl hnw)) (.inl hnw),set_far (set_far k1 (.inl hnw)) (.inl hnw),set_far (set_far k2 (.inl hnw)) (.inl hnw),set_far (set_far k3 (.inl hnw)) (.inl hnw),set_far (set_far k4 (.inl hnw)) (.inl hnw),set_far (set_far k5 (.inl hnw)) (.inl hnw)⟩) (first|(go_at_call 173;refine (typed_any x HSH.out o1 o2 m HM.out _ _ _ (st.drop r) HIN.out).mono ?_;rintro e w5 ⟨rfl,hb5⟩;have hq5:=below_undrew hb5;have hx5:=hx0.trans (hq5.mono hz0w);obtain ⟨k0,k1,k2,k3,k4,k5⟩:=NodeAt.below NV.out hq5 hzw;have u0':=bat hq5 hG0 u0;have u1':=bat hq5 hG0 u1;have F0':=((bcell hq5).2 _ _ hG0).trans F0;have F1':=((bcell hq5).2 _ _ hG0).trans F1;clear hb5 hq5))
         have HN:Hid (typeS es cols zs=(7,default)):=hide (by rw[HT.out,HQ.out.1,HX.out,typeLoop_err HM.out HST.out.len (e:=7) (by rw[nodeKd,if_neg o1,if_neg o2,if_neg (λh=>absurd h.2 (by simp at hzd;omega)),if_pos hok2]) (by omega)])
         go_wp2
         go_ret3
         exact ⟨by rw[HN.out];rfl,below_set2 (HST2.out.below.trans (hx5.mono HST2.out.below.size)) HST2.out.below.size _ _⟩
       ·rcases ops_of HST2.out.stk HST2.out.len with ⟨rfl,hm0⟩|⟨hcb,g,rfl,hin⟩
        ·have HIN:Hid (In v0.drew B m 0 (st.drop r)):=hide (by rw[List.drop_eq_nil_of_le (by rw[HST.out.len];omega),hm0];exact Sl.empty (by omega) (λ_=>rfl))
         clear hm0
         go_wp2
         go_region_held3 (λV=>V.cell? ⟨wr.heap.size,0,none⟩=some (.int .i64 x.op)/\V.cell? ⟨wr.heap.size,1,none⟩=some (.int .i64 x.value.kind)/\V.cell? ⟨wr.heap.size,2,none⟩=some (.int .i64 x.value.num)/\V.cell? ⟨wr.heap.size,3,none⟩=some (.string x.value.str)/\V.cell? ⟨wr.heap.size,4,none⟩=some (.string x.name)/\V.cell? ⟨wr.heap.size,5,none⟩=some (.int .i64 x.arity)) (first|exact ⟨h0,h1,h2,h3,h4,h5⟩|exact ⟨k0,k1,k2,k3,k4,k5⟩|exact ⟨set_far (set_far k0 (.inl hnw)) (.inl hnw),set_far (set_far k1 (.inl hnw)) (.inl hnw),set_far (set_far k2 (.inl hnw)) (.inl hnw),set_far (set_far k3 (.inl hnw)) (.inl hnw),set_far (set_far k4 (.inl hnw)) (.inl hnw),set_far (set_far k5 (.inl hnw)) (.inl hnw)⟩) (first|(go_at_call 173;refine (typed_any x HSH.out o1 o2 m HM.out _ _ _ (st.drop r) HIN.out).mono ?_;rintro e w5 ⟨rfl,hb5⟩;have hq5:=below_undrew hb5;have hx5:=hx0.trans (hq5.mono hz0w);obtain ⟨k0,k1,k2,k3,k4,k5⟩:=NodeAt.below NV.out hq5 hzw;have u0':=bat hq5 hG0 u0;have u1':=bat hq5 hG0 u1;have F0':=((bcell hq5).2 _ _ hG0).trans F0;have F1':=((bcell hq5).2 _ _ hG0).trans F1;clear hb5 hq5))
         have HND:Hid (nodeKd cols zs x (st.drop r)=(0,(opKd x (st.drop r)).1)):=hide (by rw[nodeKd,if_neg o1,if_neg o2,if_neg (λh=>absurd h.2 (by simp at hzd;omega)),if_neg (by rw[hok2];simp)])
         have HI:Hid (I64 (opKd x (st.drop r)).1.kind):=hide (opKd_i64 hok HST.out.stk.ok)
         obtain ⟨w4,hw4⟩: ∃w4,w4=(w5.setCell ⟨w2.heap.size,0,none⟩ (.int .i64 (opKd x (st.drop r)).1.kind)).setCell ⟨w2.heap.size,1,none⟩ (.bool (opKd x (st.drop r)).1.null):=⟨_,rfl⟩
         have hx4:Below w2.heap.size w2 w4:=by rw[hw4];exact (hx5.setCell (by simp) _).setCell (by simp) _
         obtain ⟨S0,S1⟩:=made_two u0' u1'
         have u0q:w4.cell? ⟨w2.heap.size,0,none⟩=some (.int .i64 (opKd x (st.drop r)).1.kind):=by rw[hw4];exact (World.cell?_setCell_other (w5.setCell ⟨w2.heap.size,0,none⟩ (.int .i64 (opKd x (st.drop r)).1.kind)) ⟨w2.heap.size,1,none⟩ ⟨w2.heap.size,0,none⟩ _ (by intro e;injection e with _ e _;omega)).trans (S0 _)
         have u1q:w4.cell? ⟨w2.heap.size,1,none⟩=some (.bool (opKd x (st.drop r)).1.null):=by rw[hw4];exact S1 _ _
         rw[<-hw4]
         clear S0 S1 u0 u1 u0' u1' F0 F1 F0' F1' h0 h1 h2 h3 h4 h5 k0 k1 k2 k3 k4 k5 hw4 hx5 hx0 NV HIN
         have u0:=u0q
         have u1:=u1q
         clear u0q u1q
         have HN:Hid (typeLoop cols zs [] es=typeLoop cols zs (st.take r++[(opKd x (st.drop r)).1]) (es.drop (k+1))):=hide (by rw[HQ.out.1,HX.out,typeLoop_ok HM.out HST.out.len (k:=(opKd x (st.drop r)).1) (HND.out)])
         have HSTW:=hide (HST2.out.keep hx4)
         have HLE:Hid (r<=st.length):=hide (by rw[HST.out.len];omega)
         have hszW:w.heap.size<=w4.heap.size:=HSTW.out.below.size
         have hG4:w2.heap.size<w4.heap.size:=lt_of_cell u0
         have HNE:Hid ((Value.slice B r r).ownBlock≠some w2.heap.size):=hide (λe=>by have hq:=HST2.out.stk.take HLE.out;have hl:(st.take r).length=r:=List.length_take_of_le HLE.out;have:=hq.blk w2.heap.size (hl.symm▸e);omega)
         have r0:(0:Int)<=(r:Int):=by omega
         have r1:(r:Int)<=(r:Int):=by have h1:=HST.out.stk.cap.1;have h2:=HST.out.len;omega
         clear hx4
         go_wp2
         go_region_held3 (λV=>V.cell? ⟨w2.heap.size,0,none⟩=some (.int .i64 (opKd x (st.drop r)).1.kind)/\V.cell? ⟨w2.heap.size,1,none⟩=some (.bool (opKd x (st.drop r)).1.null)) (first|exact ⟨u0,u1⟩|exact ⟨bat ((Below.refl _ _).drew.alloc (Nat.le_refl _) _) hG4 u0,bat ((Below.refl _ _).drew.alloc (Nat.le_refl _) _) hG4 u1⟩|exact ⟨(World.cell?_of_block (hfar5 _ (by simp;omega) HNE.out)).trans (bat ((Below.refl _ _).drew.alloc (Nat.le_refl _) _) hG4 u0),(World.cell?_of_block (hfar5 _ (by simp;omega) HNE.out)).trans (bat ((Below.refl _ _).drew.alloc (Nat.le_refl _) _) hG4 u1)⟩) (first|(refine step_push (α:=Kd) _ rfl (.tmp 92) (.tmp 94) 188 rfl w.heap.size 190 i0 _ 16 Tryz.underlying188 hi hz0 hz1 hz2 rfl (by decide) B r r st (HSTW.out.stk.keep ((Below.refl _ _).drew.alloc (Nat.le_refl _) _)) HLE.out rfl (opKd x (st.drop r)).1 HI.out w4.heap.size rfl (oneAt_new _ _ _ _ rfl) (by omega) (by simp;omega) ?_;intro A' c' w5 hst5 hb5 hfar5;have HP:Hid (KSt 190 w w5 (st.take r++[(opKd x (st.drop r)).1]) (r+1) A' c'):=hide ⟨hst5,(by rw[List.length_append,List.length_take,Nat.min_eq_left HLE.out];rfl),(HSTW.out.below.drew.alloc (by simp;omega) _).trans hb5⟩))
         go_wp2
         go_roundw
         case rel=>exact ⟨k+1,r+1,_,hs',A',c',by omega,by omega,by go_num,rfl,⟨HN.out,HL'.out,HX'.out⟩,HP.out⟩
         case measure=>simp[intOf];omega
        ·have HIN:Hid (In v0.drew (some ⟨g,r*2,none⟩) m (cb-r) (st.drop r)):=hide ((hin.below hx0).below (Below.refl _ _).drew)
         clear hin
         go_wp2
         go_region_held3 (λV=>V.cell? ⟨wr.heap.size,0,none⟩=some (.int .i64 x.op)/\V.cell? ⟨wr.heap.size,1,none⟩=some (.int .i64 x.value.kind)/\V.cell? ⟨wr.heap.size,2,none⟩=some (.int .i64 x.value.num)/\V.cell? ⟨wr.heap.size,3,none⟩=some (.string x.value.str)/\V.cell? ⟨wr.heap.size,4,none⟩=some (.string x.name)/\V.cell? ⟨wr.heap.size,5,none⟩=some (.int .i64 x.arity)) (first|exact ⟨h0,h1,h2,h3,h4,h5⟩|exact ⟨k0,k1,k2,k3,k4,k5⟩|exact ⟨set_far (set_far k0 (.inl hnw)) (.inl hnw),set_far (set_far k1 (.inl hnw)) (.inl hnw),set_far (set_far k2 (.inl hnw)) (.inl hnw),set_far (set_far k3 (.inl hnw)) (.inl hnw),set_far (set_far k4 (.inl hnw)) (.inl hnw),set_far (set_far k5 (.inl hnw)) (.inl hnw)⟩) (first|(go_at_call 173;refine (typed_any x HSH.out o1 o2 m HM.out _ _ _ (st.drop r) HIN.out).mono ?_;rintro e w5 ⟨rfl,hb5⟩;have hq5:=below_undrew hb5;have hx5:=hx0.trans (hq5.mono hz0w);obtain ⟨k0,k1,k2,k3,k4,k5⟩:=NodeAt.below NV.out hq5 hzw;have u0':=bat hq5 hG0 u0;have u1':=bat hq5 hG0 u1;have F0':=((bcell hq5).2 _ _ hG0).trans F0;have F1':=((bcell hq5).2 _ _ hG0).trans F1;clear hb5 hq5))
         have HND:Hid (nodeKd cols zs x (st.drop r)=(0,(opKd x (st.drop r)).1)):=hide (by rw[nodeKd,if_neg o1,if_neg o2,if_neg (λh=>absurd h.2 (by simp at hzd;omega)),if_neg (by rw[hok2];simp)])
         have HI:Hid (I64 (opKd x (st.drop r)).1.kind):=hide (opKd_i64 hok HST.out.stk.ok)
         obtain ⟨w4,hw4⟩: ∃w4,w4=(w5.setCell ⟨w2.heap.size,0,none⟩ (.int .i64 (opKd x (st.drop r)).1.kind)).setCell ⟨w2.heap.size,1,none⟩ (.bool (opKd x (st.drop r)).1.null):=⟨_,rfl⟩
         have hx4:Below w2.heap.size w2 w4:=by rw[hw4];exact (hx5.setCell (by simp) _).setCell (by simp) _
         obtain ⟨S0,S1⟩:=made_two u0' u1'
         have u0q:w4.cell? ⟨w2.heap.size,0,none⟩=some (.int .i64 (opKd x (st.drop r)).1.kind):=by rw[hw4];exact (World.cell?_setCell_other (w5.setCell ⟨w2.heap.size,0,none⟩ (.int .i64 (opKd x (st.drop r)).1.kind)) ⟨w2.heap.size,1,none⟩ ⟨w2.heap.size,0,none⟩ _ (by intro e;injection e with _ e _;omega)).trans (S0 _)
         have u1q:w4.cell? ⟨w2.heap.size,1,none⟩=some (.bool (opKd x (st.drop r)).1.null):=by rw[hw4];exact S1 _ _
         rw[<-hw4]
         clear S0 S1 u0 u1 u0' u1' F0 F1 F0' F1' h0 h1 h2 h3 h4 h5 k0 k1 k2 k3 k4 k5 hw4 hx5 hx0 NV HIN
         have u0:=u0q
         have u1:=u1q
         clear u0q u1q
         have HN:Hid (typeLoop cols zs [] es=typeLoop cols zs (st.take r++[(opKd x (st.drop r)).1]) (es.drop (k+1))):=hide (by rw[HQ.out.1,HX.out,typeLoop_ok HM.out HST.out.len (k:=(opKd x (st.drop r)).1) (HND.out)])
         have HSTW:=hide (HST2.out.keep hx4)
         have HLE:Hid (r<=st.length):=hide (by rw[HST.out.len];omega)
         have hszW:w.heap.size<=w4.heap.size:=HSTW.out.below.size
         have hG4:w2.heap.size<w4.heap.size:=lt_of_cell u0
         have HNE:Hid ((Value.slice (some ⟨g,0,none⟩) r cb).ownBlock≠some w2.heap.size):=hide (λe=>by have hq:=HST2.out.stk.take HLE.out;have hl:(st.take r).length=r:=List.length_take_of_le HLE.out;have:=hq.blk w2.heap.size (hl.symm▸e);omega)
         have r0:(0:Int)<=(r:Int):=by omega
         have r1:(r:Int)<=(cb:Int):=by have h1:=HST.out.stk.cap.1;have h2:=HST.out.len;omega
         clear hx4
         go_wp2
         go_region_held3 (λV=>V.cell? ⟨w2.heap.size,0,none⟩=some (.int .i64 (opKd x (st.drop r)).1.kind)/\V.cell? ⟨w2.heap.size,1,none⟩=some (.bool (opKd x (st.drop r)).1.null)) (first|exact ⟨u0,u1⟩|exact ⟨bat ((Below.refl _ _).drew.alloc (Nat.le_refl _) _) hG4 u0,bat ((Below.refl _ _).drew.alloc (Nat.le_refl _) _) hG4 u1⟩|exact ⟨(World.cell?_of_block (hfar5 _ (by simp;omega) HNE.out)).trans (bat ((Below.refl _ _).drew.alloc (Nat.le_refl _) _) hG4 u0),(World.cell?_of_block (hfar5 _ (by simp;omega) HNE.out)).trans (bat ((Below.refl _ _).drew.alloc (Nat.le_refl _) _) hG4 u1)⟩) (first|(refine step_push (α:=Kd) _ rfl (.tmp 92) (.tmp 94) 188 rfl w.heap.size 190 i0 _ 16 Tryz.underlying188 hi hz0 hz1 hz2 rfl (by decide) (some ⟨g,0,none⟩) cb r st (HSTW.out.stk.keep ((Below.refl _ _).drew.alloc (Nat.le_refl _) _)) HLE.out rfl (opKd x (st.drop r)).1 HI.out w4.heap.size rfl (oneAt_new _ _ _ _ rfl) (by omega) (by simp;omega) ?_;intro A' c' w5 hst5 hb5 hfar5;have HP:Hid (KSt 190 w w5 (st.take r++[(opKd x (st.drop r)).1]) (r+1) A' c'):=hide ⟨hst5,(by rw[List.length_append,List.length_take,Nat.min_eq_left HLE.out];rfl),(HSTW.out.below.drew.alloc (by simp;omega) _).trans hb5⟩))
         go_wp2
         go_roundw
         case rel=>exact ⟨k+1,r+1,_,hs',A',c',by omega,by omega,by go_num,rfl,⟨HN.out,HL'.out,HX'.out⟩,HP.out⟩
         case measure=>simp[intOf];omega
     ·have q3:(x.op==20)=false:=by simpa using o3
      obtain ⟨v0,hv0⟩: ∃v0,v0=w2.alloc (.cells #[.int .i64 0,.bool false] 190):=⟨_,rfl⟩
      have hx0:Below w2.heap.size w2 v0:=by rw[hv0];exact below_alloc
      have u0:v0.cell? ⟨w2.heap.size,0,none⟩=some (.int .i64 0):=by rw[hv0];simp[go_sem]
      have u1:v0.cell? ⟨w2.heap.size,1,none⟩=some (.bool false):=by rw[hv0];simp[go_sem]
      have F0:v0.frozen? ⟨w2.heap.size,0,none⟩=false:=by rw[hv0];simp[go_sem]
      have F1:v0.frozen? ⟨w2.heap.size,1,none⟩=false:=by rw[hv0];simp[go_sem]
      go_upto_region 11 with (fail)
      rw[<-hv0]
      clear hv0
      have hz0w:w2.heap.size<=v0.heap.size:=hx0.size
      have hzw:wr.heap.size<v0.heap.size:=by omega
      have hG0:w2.heap.size<v0.heap.size:=lt_of_cell u0
      have hnw:¬wr.heap.size=w2.heap.size:=by omega
      have NV:Hid (NodeAt v0 wr.heap.size x):=hide (NodeAt.below ⟨g0,g1,g2,g3,g4,g5⟩ hx0 z2)
      obtain ⟨h0,h1,h2,h3,h4,h5⟩:=NV.out
      have r0:(0:Int)<=(r:Int):=by omega
      have r2:(r:Int)<=(r:Int)+(m:Int):=by omega
      clear g0 g1 g2 g3 g4 g5
      cases hok2:(opKd x (st.drop r)).2
      ·rcases ops_of HST2.out.stk HST2.out.len with ⟨rfl,hm0⟩|⟨hcb,g,rfl,hin⟩
       ·have HIN:Hid (In v0.drew B m 0 (st.drop r)):=hide (by rw[List.drop_eq_nil_of_le (by rw[HST.out.len];omega),hm0];exact Sl.empty (by omega) (λ_=>rfl))
        clear hm0
        go_wp2
        go_region_held3 (λV=>V.cell? ⟨wr.heap.size,0,none⟩=some (.int .i64 x.op)/\V.cell? ⟨wr.heap.size,1,none⟩=some (.int .i64 x.value.kind)/\V.cell? ⟨wr.heap.size,2,none⟩=some (.int .i64 x.value.num)/\V.cell? ⟨wr.heap.size,3,none⟩=some (.string x.value.str)/\V.cell? ⟨wr.heap.size,4,none⟩=some (.string x.name)/\V.cell? ⟨wr.heap.size,5,none⟩=some (.int .i64 x.arity)) (first|exact ⟨h0,h1,h2,h3,h4,h5⟩|exact ⟨k0,k1,k2,k3,k4,k5⟩|exact ⟨set_far (set_far k0 (.inl hnw)) (.inl hnw),set_far (set_far k1 (.inl hnw)) (.inl hnw),set_far (set_far k2 (.inl hnw)) (.inl hnw),set_far (set_far k3 (.inl hnw)) (.inl hnw),set_far (set_far k4 (.inl hnw)) (.inl hnw),set_far (set_far k5 (.inl hnw)) (.inl hnw)⟩) (first|(go_at_call 173;refine (typed_any x HSH.out o1 o2 m HM.out _ _ _ (st.drop r) HIN.out).mono ?_;rintro e w5 ⟨rfl,hb5⟩;have hq5:=below_undrew hb5;have hx5:=hx0.trans (hq5.mono hz0w);obtain ⟨k0,k1,k2,k3,k4,k5⟩:=NodeAt.below NV.out hq5 hzw;have u0':=bat hq5 hG0 u0;have u1':=bat hq5 hG0 u1;have F0':=((bcell hq5).2 _ _ hG0).trans F0;have F1':=((bcell hq5).2 _ _ hG0).trans F1;clear hb5 hq5))
        have HN:Hid (typeS es cols zs=(7,default)):=hide (by rw[HT.out,HQ.out.1,HX.out,typeLoop_err HM.out HST.out.len (e:=7) (by rw[nodeKd,if_neg o1,if_neg o2,if_neg (λh=>o3 h.1),if_pos hok2]) (by omega)])
        go_wp2
        go_ret3
        exact ⟨by rw[HN.out];rfl,below_set2 (HST2.out.below.trans (hx5.mono HST2.out.below.size)) HST2.out.below.size _ _⟩
       ·have HIN:Hid (In v0.drew (some ⟨g,r*2,none⟩) m (cb-r) (st.drop r)):=hide ((hin.below hx0).below (Below.refl _ _).drew)
        clear hin
        go_wp2
        go_region_held3 (λV=>V.cell? ⟨wr.heap.size,0,none⟩=some (.int .i64 x.op)/\V.cell? ⟨wr.heap.size,1,none⟩=some (.int .i64 x.value.kind)/\V.cell? ⟨wr.heap.size,2,none⟩=some (.int .i64 x.value.num)/\V.cell? ⟨wr.heap.size,3,none⟩=some (.string x.value.str)/\V.cell? ⟨wr.heap.size,4,none⟩=some (.string x.name)/\V.cell? ⟨wr.heap.size,5,none⟩=some (.int .i64 x.arity)) (first|exact ⟨h0,h1,h2,h3,h4,h5⟩|exact ⟨k0,k1,k2,k3,k4,k5⟩|exact ⟨set_far (set_far k0 (.inl hnw)) (.inl hnw),set_far (set_far k1 (.inl hnw)) (.inl hnw),set_far (set_far k2 (.inl hnw)) (.inl hnw),set_far (set_far k3 (.inl hnw)) (.inl hnw),set_far (set_far k4 (.inl hnw)) (.inl hnw),set_far (set_far k5 (.inl hnw)) (.inl hnw)⟩) (first|(go_at_call 173;refine (typed_any x HSH.out o1 o2 m HM.out _ _ _ (st.drop r) HIN.out).mono ?_;rintro e w5 ⟨rfl,hb5⟩;have hq5:=below_undrew hb5;have hx5:=hx0.trans (hq5.mono hz0w);obtain ⟨k0,k1,k2,k3,k4,k5⟩:=NodeAt.below NV.out hq5 hzw;have u0':=bat hq5 hG0 u0;have u1':=bat hq5 hG0 u1;have F0':=((bcell hq5).2 _ _ hG0).trans F0;have F1':=((bcell hq5).2 _ _ hG0).trans F1;clear hb5 hq5))
        have HN:Hid (typeS es cols zs=(7,default)):=hide (by rw[HT.out,HQ.out.1,HX.out,typeLoop_err HM.out HST.out.len (e:=7) (by rw[nodeKd,if_neg o1,if_neg o2,if_neg (λh=>o3 h.1),if_pos hok2]) (by omega)])
        go_wp2
        go_ret3
        exact ⟨by rw[HN.out];rfl,below_set2 (HST2.out.below.trans (hx5.mono HST2.out.below.size)) HST2.out.below.size _ _⟩
      ·rcases ops_of HST2.out.stk HST2.out.len with ⟨rfl,hm0⟩|⟨hcb,g,rfl,hin⟩
       ·have HIN:Hid (In v0.drew B m 0 (st.drop r)):=hide (by rw[List.drop_eq_nil_of_le (by rw[HST.out.len];omega),hm0];exact Sl.empty (by omega) (λ_=>rfl))
        clear hm0
        go_wp2
        go_region_held3 (λV=>V.cell? ⟨wr.heap.size,0,none⟩=some (.int .i64 x.op)/\V.cell? ⟨wr.heap.size,1,none⟩=some (.int .i64 x.value.kind)/\V.cell? ⟨wr.heap.size,2,none⟩=some (.int .i64 x.value.num)/\V.cell? ⟨wr.heap.size,3,none⟩=some (.string x.value.str)/\V.cell? ⟨wr.heap.size,4,none⟩=some (.string x.name)/\V.cell? ⟨wr.heap.size,5,none⟩=some (.int .i64 x.arity)) (first|exact ⟨h0,h1,h2,h3,h4,h5⟩|exact ⟨k0,k1,k2,k3,k4,k5⟩|exact ⟨set_far (set_far k0 (.inl hnw)) (.inl hnw),set_far (set_far k1 (.inl hnw)) (.inl hnw),set_far (set_far k2 (.inl hnw)) (.inl hnw),set_far (set_far k3 (.inl hnw)) (.inl hnw),set_far (set_far k4 (.inl hnw)) (.inl hnw),set_far (set_far k5 (.inl hnw)) (.inl hnw)⟩) (first|(go_at_call 173;refine (typed_any x HSH.out o1 o2 m HM.out _ _ _ (st.drop r) HIN.out).mono ?_;rintro e w5 ⟨rfl,hb5⟩;have hq5:=below_undrew hb5;have hx5:=hx0.trans (hq5.mono hz0w);obtain ⟨k0,k1,k2,k3,k4,k5⟩:=NodeAt.below NV.out hq5 hzw;have u0':=bat hq5 hG0 u0;have u1':=bat hq5 hG0 u1;have F0':=((bcell hq5).2 _ _ hG0).trans F0;have F1':=((bcell hq5).2 _ _ hG0).trans F1;clear hb5 hq5))
        have HND:Hid (nodeKd cols zs x (st.drop r)=(0,(opKd x (st.drop r)).1)):=hide (by rw[nodeKd,if_neg o1,if_neg o2,if_neg (λh=>o3 h.1),if_neg (by rw[hok2];simp)])
        have HI:Hid (I64 (opKd x (st.drop r)).1.kind):=hide (opKd_i64 hok HST.out.stk.ok)
        obtain ⟨w4,hw4⟩: ∃w4,w4=(w5.setCell ⟨w2.heap.size,0,none⟩ (.int .i64 (opKd x (st.drop r)).1.kind)).setCell ⟨w2.heap.size,1,none⟩ (.bool (opKd x (st.drop r)).1.null):=⟨_,rfl⟩
        have hx4:Below w2.heap.size w2 w4:=by rw[hw4];exact (hx5.setCell (by simp) _).setCell (by simp) _
        obtain ⟨S0,S1⟩:=made_two u0' u1'
        have u0q:w4.cell? ⟨w2.heap.size,0,none⟩=some (.int .i64 (opKd x (st.drop r)).1.kind):=by rw[hw4];exact (World.cell?_setCell_other (w5.setCell ⟨w2.heap.size,0,none⟩ (.int .i64 (opKd x (st.drop r)).1.kind)) ⟨w2.heap.size,1,none⟩ ⟨w2.heap.size,0,none⟩ _ (by intro e;injection e with _ e _;omega)).trans (S0 _)
        have u1q:w4.cell? ⟨w2.heap.size,1,none⟩=some (.bool (opKd x (st.drop r)).1.null):=by rw[hw4];exact S1 _ _
        rw[<-hw4]
        clear S0 S1 u0 u1 u0' u1' F0 F1 F0' F1' h0 h1 h2 h3 h4 h5 k0 k1 k2 k3 k4 k5 hw4 hx5 hx0 NV HIN
        have u0:=u0q
        have u1:=u1q
        clear u0q u1q
        have HN:Hid (typeLoop cols zs [] es=typeLoop cols zs (st.take r++[(opKd x (st.drop r)).1]) (es.drop (k+1))):=hide (by rw[HQ.out.1,HX.out,typeLoop_ok HM.out HST.out.len (k:=(opKd x (st.drop r)).1) (HND.out)])
        have HSTW:=hide (HST2.out.keep hx4)
        have HLE:Hid (r<=st.length):=hide (by rw[HST.out.len];omega)
        have hszW:w.heap.size<=w4.heap.size:=HSTW.out.below.size
        have hG4:w2.heap.size<w4.heap.size:=lt_of_cell u0
        have HNE:Hid ((Value.slice B r r).ownBlock≠some w2.heap.size):=hide (λe=>by have hq:=HST2.out.stk.take HLE.out;have hl:(st.take r).length=r:=List.length_take_of_le HLE.out;have:=hq.blk w2.heap.size (hl.symm▸e);omega)
        have r0:(0:Int)<=(r:Int):=by omega
        have r1:(r:Int)<=(r:Int):=by have h1:=HST.out.stk.cap.1;have h2:=HST.out.len;omega
        clear hx4
        go_wp2
        go_region_held3 (λV=>V.cell? ⟨w2.heap.size,0,none⟩=some (.int .i64 (opKd x (st.drop r)).1.kind)/\V.cell? ⟨w2.heap.size,1,none⟩=some (.bool (opKd x (st.drop r)).1.null)) (first|exact ⟨u0,u1⟩|exact ⟨bat ((Below.refl _ _).drew.alloc (Nat.le_refl _) _) hG4 u0,bat ((Below.refl _ _).drew.alloc (Nat.le_refl _) _) hG4 u1⟩|exact ⟨(World.cell?_of_block (hfar5 _ (by simp;omega) HNE.out)).trans (bat ((Below.refl _ _).drew.alloc (Nat.le_refl _) _) hG4 u0),(World.cell?_of_block (hfar5 _ (by simp;omega) HNE.out)).trans (bat ((Below.refl _ _).drew.alloc (Nat.le_refl _) _) hG4 u1)⟩) (first|(refine step_push (α:=Kd) _ rfl (.tmp 92) (.tmp 94) 188 rfl w.heap.size 190 i0 _ 16 Tryz.underlying188 hi hz0 hz1 hz2 rfl (by decide) B r r st (HSTW.out.stk.keep ((Below.refl _ _).drew.alloc (Nat.le_refl _) _)) HLE.out rfl (opKd x (st.drop r)).1 HI.out w4.heap.size rfl (oneAt_new _ _ _ _ rfl) (by omega) (by simp;omega) ?_;intro A' c' w5 hst5 hb5 hfar5;have HP:Hid (KSt 190 w w5 (st.take r++[(opKd x (st.drop r)).1]) (r+1) A' c'):=hide ⟨hst5,(by rw[List.length_append,List.length_take,Nat.min_eq_left HLE.out];rfl),(HSTW.out.below.drew.alloc (by simp;omega) _).trans hb5⟩))
        go_wp2
        go_roundw
        case rel=>exact ⟨k+1,r+1,_,hs',A',c',by omega,by omega,by go_num,rfl,⟨HN.out,HL'.out,HX'.out⟩,HP.out⟩
        case measure=>simp[intOf];omega
       ·have HIN:Hid (In v0.drew (some ⟨g,r*2,none⟩) m (cb-r) (st.drop r)):=hide ((hin.below hx0).below (Below.refl _ _).drew)
        clear hin
        go_wp2
        go_region_held3 (λV=>V.cell? ⟨wr.heap.size,0,none⟩=some (.int .i64 x.op)/\V.cell? ⟨wr.heap.size,1,none⟩=some (.int .i64 x.value.kind)/\V.cell? ⟨wr.heap.size,2,none⟩=some (.int .i64 x.value.num)/\V.cell? ⟨wr.heap.size,3,none⟩=some (.string x.value.str)/\V.cell? ⟨wr.heap.size,4,none⟩=some (.string x.name)/\V.cell? ⟨wr.heap.size,5,none⟩=some (.int .i64 x.arity)) (first|exact ⟨h0,h1,h2,h3,h4,h5⟩|exact ⟨k0,k1,k2,k3,k4,k5⟩|exact ⟨set_far (set_far k0 (.inl hnw)) (.inl hnw),set_far (set_far k1 (.inl hnw)) (.inl hnw),set_far (set_far k2 (.inl hnw)) (.inl hnw),set_far (set_far k3 (.inl hnw)) (.inl hnw),set_far (set_far k4 (.inl hnw)) (.inl hnw),set_far (set_far k5 (.inl hnw)) (.inl hnw)⟩) (first|(go_at_call 173;refine (typed_any x HSH.out o1 o2 m HM.out _ _ _ (st.drop r) HIN.out).mono ?_;rintro e w5 ⟨rfl,hb5⟩;have hq5:=below_undrew hb5;have hx5:=hx0.trans (hq5.mono hz0w);obtain ⟨k0,k1,k2,k3,k4,k5⟩:=NodeAt.below NV.out hq5 hzw;have u0':=bat hq5 hG0 u0;have u1':=bat hq5 hG0 u1;have F0':=((bcell hq5).2 _ _ hG0).trans F0;have F1':=((bcell hq5).2 _ _ hG0).trans F1;clear hb5 hq5))
        have HND:Hid (nodeKd cols zs x (st.drop r)=(0,(opKd x (st.drop r)).1)):=hide (by rw[nodeKd,if_neg o1,if_neg o2,if_neg (λh=>o3 h.1),if_neg (by rw[hok2];simp)])
        have HI:Hid (I64 (opKd x (st.drop r)).1.kind):=hide (opKd_i64 hok HST.out.stk.ok)
        obtain ⟨w4,hw4⟩: ∃w4,w4=(w5.setCell ⟨w2.heap.size,0,none⟩ (.int .i64 (opKd x (st.drop r)).1.kind)).setCell ⟨w2.heap.size,1,none⟩ (.bool (opKd x (st.drop r)).1.null):=⟨_,rfl⟩
        have hx4:Below w2.heap.size w2 w4:=by rw[hw4];exact (hx5.setCell (by simp) _).setCell (by simp) _
        obtain ⟨S0,S1⟩:=made_two u0' u1'
        have u0q:w4.cell? ⟨w2.heap.size,0,none⟩=some (.int .i64 (opKd x (st.drop r)).1.kind):=by rw[hw4];exact (World.cell?_setCell_other (w5.setCell ⟨w2.heap.size,0,none⟩ (.int .i64 (opKd x (st.drop r)).1.kind)) ⟨w2.heap.size,1,none⟩ ⟨w2.heap.size,0,none⟩ _ (by intro e;injection e with _ e _;omega)).trans (S0 _)
        have u1q:w4.cell? ⟨w2.heap.size,1,none⟩=some (.bool (opKd x (st.drop r)).1.null):=by rw[hw4];exact S1 _ _
        rw[<-hw4]
        clear S0 S1 u0 u1 u0' u1' F0 F1 F0' F1' h0 h1 h2 h3 h4 h5 k0 k1 k2 k3 k4 k5 hw4 hx5 hx0 NV HIN
        have u0:=u0q
        have u1:=u1q
        clear u0q u1q
        have HN:Hid (typeLoop cols zs [] es=typeLoop cols zs (st.take r++[(opKd x (st.drop r)).1]) (es.drop (k+1))):=hide (by rw[HQ.out.1,HX.out,typeLoop_ok HM.out HST.out.len (k:=(opKd x (st.drop r)).1) (HND.out)])
        have HSTW:=hide (HST2.out.keep hx4)
        have HLE:Hid (r<=st.length):=hide (by rw[HST.out.len];omega)
        have hszW:w.heap.size<=w4.heap.size:=HSTW.out.below.size
        have hG4:w2.heap.size<w4.heap.size:=lt_of_cell u0
        have HNE:Hid ((Value.slice (some ⟨g,0,none⟩) r cb).ownBlock≠some w2.heap.size):=hide (λe=>by have hq:=HST2.out.stk.take HLE.out;have hl:(st.take r).length=r:=List.length_take_of_le HLE.out;have:=hq.blk w2.heap.size (hl.symm▸e);omega)
        have r0:(0:Int)<=(r:Int):=by omega
        have r1:(r:Int)<=(cb:Int):=by have h1:=HST.out.stk.cap.1;have h2:=HST.out.len;omega
        clear hx4
        go_wp2
        go_region_held3 (λV=>V.cell? ⟨w2.heap.size,0,none⟩=some (.int .i64 (opKd x (st.drop r)).1.kind)/\V.cell? ⟨w2.heap.size,1,none⟩=some (.bool (opKd x (st.drop r)).1.null)) (first|exact ⟨u0,u1⟩|exact ⟨bat ((Below.refl _ _).drew.alloc (Nat.le_refl _) _) hG4 u0,bat ((Below.refl _ _).drew.alloc (Nat.le_refl _) _) hG4 u1⟩|exact ⟨(World.cell?_of_block (hfar5 _ (by simp;omega) HNE.out)).trans (bat ((Below.refl _ _).drew.alloc (Nat.le_refl _) _) hG4 u0),(World.cell?_of_block (hfar5 _ (by simp;omega) HNE.out)).trans (bat ((Below.refl _ _).drew.alloc (Nat.le_refl _) _) hG4 u1)⟩) (first|(refine step_push (α:=Kd) _ rfl (.tmp 92) (.tmp 94) 188 rfl w.heap.size 190 i0 _ 16 Tryz.underlying188 hi hz0 hz1 hz2 rfl (by decide) (some ⟨g,0,none⟩) cb r st (HSTW.out.stk.keep ((Below.refl _ _).drew.alloc (Nat.le_refl _) _)) HLE.out rfl (opKd x (st.drop r)).1 HI.out w4.heap.size rfl (oneAt_new _ _ _ _ rfl) (by omega) (by simp;omega) ?_;intro A' c' w5 hst5 hb5 hfar5;have HP:Hid (KSt 190 w w5 (st.take r++[(opKd x (st.drop r)).1]) (r+1) A' c'):=hide ⟨hst5,(by rw[List.length_append,List.length_take,Nat.min_eq_left HLE.out];rfl),(HSTW.out.below.drew.alloc (by simp;omega) _).trans hb5⟩))
        go_wp2
        go_roundw
        case rel=>exact ⟨k+1,r+1,_,hs',A',c',by omega,by omega,by go_num,rfl,⟨HN.out,HL'.out,HX'.out⟩,HP.out⟩
        case measure=>simp[intOf];omega
  ·have HX:=hide (drop_end hx.len (show n<=k by omega))
   have hd1:d=1:=exprLoop_end (by rw[<-HX.out];exact HQ.out.2.2) HQ.out.2.1
   subst hd1
   have HIN:Hid (In wr B 1 cb st):=hide (by have:=HST.out.stk.inn;rw[HST.out.len]at this;exact this)
   obtain ⟨b3,off3,y,rfl,hB3,HY,y0,y1,y2⟩:=HIN.out.kd (show 0<1 by omega)
   simp only[Nat.zero_mul,Nat.add_zero]at y0 y1
   have HR:Hid (typeS es cols zs=(0,y)):=hide (by
    rw[HT.out,HQ.out.1,HX.out,typeLoop]
    have:=HY.out
    rw[List.drop_zero]at this
    rw[this];rfl)
   have k0:(0:Int)<(1:Int):=by omega
   go_wp2
   go_quiet (fail)
   go_wp2
   go_ret3
   exact ⟨by rw[HR.out];rfl,below_drewN HST.out.below _⟩
end Go.Proofs.YtggejcekmehocaaGreatDoor
