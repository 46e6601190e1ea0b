/-
  warehouseref9.Value: it returns valLoop. (Printed by gen_valR.py.) warehouseref9.Eval: it returns evalS.
-/
import Derived.Test.YtggejcekmehocaaGreatDoorVal9
import Derived.Test.YtggejcekmehocaaGreatDoorTypR
import Derived.Test.YtggejcekmehocaaGreatDoorEvA
namespace Go.Proofs.YtggejcekmehocaaGreatDoor
set_option maxHeartbeats 40000000
set_option maxRecDepth 100000
open Go.RowKit
set_option linter.unusedSimpArgs false
set_option linter.unusedVariables false
theorem dB {w:World}{b o g:Nat}{u v0 v1 v2:Value}(h:w.cell? ⟨b,o,none⟩=some u)(hne:b≠g):(((w.setCell ⟨g,0,none⟩ v0).setCell ⟨g,1,none⟩ v1).setCell ⟨g,2,none⟩ v2).cell? ⟨b,o,none⟩=some u:=
 ae (ae (ae h (.inl hne)) (.inl hne)) (.inl hne)
theorem Nc (w:World)(A:Option Addr)(n c:Nat)(es:List Node)(hx:In w A n c es)(A1:Option Addr)(n1 c1:Nat)(cols:List Col)(hc:In w A1 n1 c1 cols)(A3:Option Addr)(n3 c3:Nat)(row:List Val)(hr:In w A3 n3 c3 row)(A2:Option Addr)(n2 c2:Nat)(zs:List Zone)(hz:In w A2 n2 c2 zs)(ht:(cK es cols zs).1=0)(hro:aS cols row=0):
  Calls Tryz.prog 150 #[.slice A n c,.slice A1 n1 c1,.slice A3 n3 c3,.slice A2 n2 c2] w λe w'=>e=.returned (.agg (jg cols row zs [] es).cells.toArray)/\Below w.heap.size w w':=by
 have h63:=hx.le
 have hnn:n3=n1:=by have:=Dh hro;rw[hc.len,hr.len]at this;exact this
 subst hnn
 have HS:=hide (Run.short (row:=row) (es:=es) (cols:=cols) (zs:=zs) ht)
 have Qy:=hide (Run.start (row:=row) (es:=es) (cols:=cols) (zs:=zs) ht)
 have Mj:n<=256:=by have:=HS.out.1;rw[hx.len]at this;exact this
 have Zh:=hide hro
 clear ht hro
 obtain ⟨i0,hi,hy0,hy1,hy2⟩:=info_parts mR
 go_enter Tryz.func150,Tryz.ntmps150
 go_wp2
 go_loopw [9,10] (λv i wr=> ∃(k d:Nat) (hs:List Int) (ks:List Kd) (st:List Val) (B:Option Addr) (cb:Nat),k<=n/\d<=k/\i=.int .i64 k/\v=.slice B d cb/\Run cols row zs es k d hs ks st/\VSt 74 w wr st d B cb/\Zr wr w.heap.size) (λ_ i _=>n-(intOf i).toNat)
 case atStart=>exact ⟨0,0,[],[],[],none,0,Nat.zero_le _,Nat.zero_le _,rfl,rfl,Qy.out,⟨Stk.nil_ _ _ _,rfl,af⟩,Zr.made w _⟩
 case round=>
  obtain ⟨k,d,hs,ks,st,B,cb,hk,hdk,rfl,rfl,hrun,hst,Ru⟩:=hrel
  have HR:=hide hrun
  have HST:=hide hst
  have Z:=hide Ru
  clear hrun hst Ru
  by_cases hlt:k<n
  ·obtain ⟨b,off,x,rfl,hB,HX,f0,f1,f2,f3,f4,f5,hok⟩:=(hx.below HST.out.below).node hlt
   obtain ⟨m,r,hs',ks',rfl,hsp,zf⟩:=HR.out.step HS.out.2 Zh.out HX.out
   have SP:=hide hsp
   have HR2:=hide zf
   have Jn:m<=8:=hsp.m8
   have Vd:Hid (x.op=1->0<=index cols x.name/\index cols x.name<n3):=hide (λh1=>by have h:=SP.out.col h1;rw[hc.len]at h;exact h.2)
   clear hsp zf hok
   go_wp2_with fail
   refine (mo x _).mono ?_
   rintro e w2 ⟨rfl,hb2⟩
   rw[SP.out.ar]
   have f0:=ah hb2 hB f0
   have f1:=ah hb2 hB f1
   have f2:=ah hb2 hB f2
   have f3:=ah hb2 hB f3
   have f4:=ah hb2 hB f4
   have f5:=ah hb2 hB f5
   have hB2:=Nat.lt_of_lt_of_le hB hb2.size
   have cZ:=hide (HST.out.keep hb2)
   have Z2:=hide (Z.out.below hb2)
   clear hb2
   have hc2:=hc.below cZ.out.below
   have hr2:=hr.below cZ.out.below
   have hz2:=hz.below cZ.out.below
   have r0:(0:Int)<=(r:Int):=by omega
   have r2:(r:Int)<=(r:Int)+(m:Int):=by omega
   obtain ⟨⟨kk,kn,ku⟩,hnk⟩: ∃q,je cols row zs x (st.drop r)=q:=⟨_,rfl⟩
   have yt:=hide hnk
   have Ni:Hid (Flat.ok (α:=Val) ⟨kk,kn,ku⟩):=hide (by have h:=jw SP.out.new;rw[yt.out]at h;exact h)
   clear hnk
   rcases pV cZ.out.stk cZ.out.len with ⟨rfl,hm0⟩|⟨hcb,g,rfl,hin⟩
   ·have fB:Below w2.heap.size w2 (w2.alloc (.cells #[.int .i64 0,.int .i64 0,.string ⟨#[]⟩] 74)).drew:=((Below.refl _ _).alloc (Nat.le_refl _) _).drew
    have eu:Hid (In (w2.alloc (.cells #[.int .i64 0,.int .i64 0,.string ⟨#[]⟩] 74)).drew B m 0 (st.drop r)):=hide (by rw[List.drop_eq_nil_of_le (by rw[HST.out.len];omega),hm0];exact Sl.empty (by omega) (λ_=>rfl))
    have oQ:Hid (In w2.drew B m 0 (st.drop r)):=hide (by rw[List.drop_eq_nil_of_le (by rw[HST.out.len];omega),hm0];exact Sl.empty (by omega) (λ_=>rfl))
    clear hm0
    have ou:w2.heap.size<(w2.alloc (.cells #[.int .i64 0,.int .i64 0,.string ⟨#[]⟩] 74)).drew.heap.size:=by simp
    have kT:b<(w2.alloc (.cells #[.int .i64 0,.int .i64 0,.string ⟨#[]⟩] 74)).drew.heap.size:=by simp;omega
    have hbg:b≠w2.heap.size:=by omega
    have Zv:Hid (Zr (w2.alloc (.cells #[.int .i64 0,.int .i64 0,.string ⟨#[]⟩] 74)).drew w2.heap.size):=hide (Zr.drew (Zr.made w2 _))
    obtain ⟨u0,u1,u2,F0,F1,F2,_⟩:=Zv.out
    have d0:=ah fB hB2 f0
    have d1:=ah fB hB2 f1
    have d2:=ah fB hB2 f2
    have d3:=ah fB hB2 f3
    have d4:=ah fB hB2 f4
    have d5:=ah fB hB2 f5
    go_wp2
    go_region_held3 (λV=>V.cell? ⟨b,off+k*6,none⟩=some (.int .i64 x.op)/\V.cell? ⟨b,off+k*6+1,none⟩=some (.int .i64 x.value.kind)/\V.cell? ⟨b,off+k*6+2,none⟩=some (.int .i64 x.value.num)/\V.cell? ⟨b,off+k*6+3,none⟩=some (.string x.value.str)/\V.cell? ⟨b,off+k*6+4,none⟩=some (.string x.name)/\V.cell? ⟨b,off+k*6+5,none⟩=some (.int .i64 x.arity)) (first|exact ⟨f0,f1,f2,f3,f4,f5⟩|exact ⟨f0',f1',f2',f3',f4',f5'⟩|exact ⟨d0,d1,d2,d3,d4,d5⟩|exact ⟨dB f0' hbg,dB f1' hbg,dB f2' hbg,dB f3' hbg,dB f4' hbg,dB f5' hbg⟩|exact ⟨ah (b:=b) (af (w:=w5)) gK f0',ah (b:=b) (af (w:=w5)) gK f1',ah (b:=b) (af (w:=w5)) gK f2',ah (b:=b) (af (w:=w5)) gK f3',ah (b:=b) (af (w:=w5)) gK f4',ah (b:=b) (af (w:=w5)) gK f5'⟩|exact ⟨dB (ah (b:=b) (af (w:=w5)) gK f0') dh,dB (ah (b:=b) (af (w:=w5)) gK f1') dh,dB (ah (b:=b) (af (w:=w5)) gK f2') dh,dB (ah (b:=b) (af (w:=w5)) gK f3') dh,dB (ah (b:=b) (af (w:=w5)) gK f4') dh,dB (ah (b:=b) (af (w:=w5)) gK f5') dh⟩) (first|(go_at_call 181;refine (sG zs x SP.out.sh SP.out.n21 m SP.out.ar _ _ _ (st.drop r) eu.out SP.out.val _ _ _ cols (hc2.below fB) _ _ _ row (hr2.below fB) Vd.out _ _ _ (hz2.below fB)).mono ?_;rintro e w5 ⟨rfl,hb5⟩;rw[yt.out];simp only[Val.cells];have hQ:Hid (w2.heap.size=w2.heap.size):=hide rfl;have f0':=ah hb5 kT d0;have f1':=ah hb5 kT d1;have f2':=ah hb5 kT d2;have f3':=ah hb5 kT d3;have f4':=ah hb5 kT d4;have f5':=ah hb5 kT d5;have u0':=ah hb5 ou u0;have u1':=ah hb5 ou u1;have u2':=ah hb5 ou u2;have F0':=((ai hb5).2 _ _ ou).trans F0;have F1':=((ai hb5).2 _ _ ou).trans F1;have F2':=((ai hb5).2 _ _ ou).trans F2;have lQ:Below w2.heap.size w2 w5:=fB.trans (hb5.mono fB.size);have gK:b<w5.heap.size:=Nat.lt_of_lt_of_le hB2 lQ.size;have dh:b≠w5.heap.size:=(by omega);clear hb5 u0 u1 u2 F0 F1 F2)|(go_at_call 181;refine (sG zs x SP.out.sh SP.out.n21 m SP.out.ar _ _ _ (st.drop r) oQ.out SP.out.val _ _ _ cols (hc2.below (Below.refl _ _).drew) _ _ _ row (hr2.below (Below.refl _ _).drew) Vd.out _ _ _ (hz2.below (Below.refl _ _).drew)).mono ?_;rintro e w5 ⟨rfl,hb5⟩;rw[yt.out];simp only[Val.cells];have f0':=ah (ag hb5) hB2 f0;have f1':=ah (ag hb5) hB2 f1;have f2':=ah (ag hb5) hB2 f2;have f3':=ah (ag hb5) hB2 f3;have f4':=ah (ag hb5) hB2 f4;have f5':=ah (ag hb5) hB2 f5;have lQ:Below w2.heap.size w2 w5:=ag hb5;have gK:b<w5.heap.size:=Nat.lt_of_lt_of_le hB2 lQ.size;have dh:b≠w5.heap.size:=(by omega);clear hb5 u0 u1 u2 F0 F1 F2))
    ·obtain ⟨w4,hw4⟩: ∃w4,w4=w5.alloc (.cells #[.int .i64 kk,.int .i64 kn,.string ku] 74):=⟨_,rfl⟩
     have hx4:Below w2.heap.size w2 w4:=by rw[hw4];exact lQ.alloc lQ.size _
     have u0:w4.cell? ⟨w5.heap.size,0,none⟩=some (.int .i64 kk):=by rw[hw4];simp[go_sem]
     have u1:w4.cell? ⟨w5.heap.size,1,none⟩=some (.int .i64 kn):=by rw[hw4];simp[go_sem]
     have u2:w4.cell? ⟨w5.heap.size,2,none⟩=some (.string ku):=by rw[hw4];simp[go_sem]
     rw[<-hw4]
     obtain ⟨G,hG⟩: ∃G,w5.heap.size=G:=⟨_,rfl⟩
     rw[hG]at u0 u1 u2
     rw[hG]
     clear hw4 hG f0 f1 f2 f3 f4 f5 f0' f1' f2' f3' f4' f5' d0 d1 d2 d3 d4 d5 eu oQ lQ fB ou kT gK dh
     have fH:=hide (cZ.out.keep hx4)
     have ZW:=hide (Z2.out.below hx4)
     have gF:Hid (r<=st.length):=hide (by rw[HST.out.len];omega)
     have hszW:w.heap.size<=w4.heap.size:=fH.out.below.size
     have hG4:G<w4.heap.size:=lt_of_cell u0
     have r1:(r:Int)<=(r:Int):=by have h1:=HST.out.stk.cap.1;have h2:=HST.out.len;omega
     clear hx4
     go_wp2
     go_region_held3 (λV=>V.cell? ⟨G,0,none⟩=some (.int .i64 kk)/\V.cell? ⟨G,1,none⟩=some (.int .i64 kn)/\V.cell? ⟨G,2,none⟩=some (.string ku)) (first|exact ⟨u0,u1,u2⟩|exact ⟨ah ((Below.refl _ _).drew.alloc (Nat.le_refl _) _) hG4 u0,ah ((Below.refl _ _).drew.alloc (Nat.le_refl _) _) hG4 u1,ah ((Below.refl _ _).drew.alloc (Nat.le_refl _) _) hG4 u2⟩|exact ⟨ah dC vU (ah ((Below.refl _ _).drew.alloc (Nat.le_refl _) _) hG4 u0),ah dC vU (ah ((Below.refl _ _).drew.alloc (Nat.le_refl _) _) hG4 u1),ah dC vU (ah ((Below.refl _ _).drew.alloc (Nat.le_refl _) _) hG4 u2)⟩) (first|(refine jv (α:=Val) _ rfl (.tmp 41) (.tmp 43) 59 rfl w.heap.size 74 i0 _ 32 Tryz.underlying59 hi hy0 hy1 hy2 rfl (by decide) B r r st (fH.out.stk.keep ((Below.refl _ _).drew.alloc (Nat.le_refl _) _)) gF.out rfl ⟨kk,kn,ku⟩ Ni.out w4.heap.size rfl (bX _ _ _ _ rfl) (by omega) (by simp;omega) ?_;intro A' c' w7 tQ dC;have vU:G<(World.alloc w4.drew (.cells #[.int .i64 kk,.int .i64 kn,.string ku] 74)).heap.size:=(by simp;omega);have HP:Hid (VSt 74 w w7 (st.take r++[⟨kk,kn,ku⟩]) (r+1) A' c'):=hide ⟨tQ,(by rw[List.length_append,List.length_take,Nat.min_eq_left gF.out];rfl),(fH.out.below.drew.alloc (by simp;omega) _).trans (dC.mono (by simp;omega))⟩;have QD:Hid (Zr w7 w.heap.size):=hide ((ZW.out.drew.below af).below dC)))
     go_wp2
     go_roundw
     case rel=>exact ⟨k+1,r+1,hs',ks',_,A',c',by omega,by omega,by go_num,rfl,by rw[<-yt.out];exact HR2.out,HP.out,QD.out⟩
     case measure=>simp[intOf];omega
    ·obtain ⟨w4,hw4⟩: ∃w4,w4=((w5.setCell ⟨w2.heap.size,0,none⟩ (.int .i64 kk)).setCell ⟨w2.heap.size,1,none⟩ (.int .i64 kn)).setCell ⟨w2.heap.size,2,none⟩ (.string ku):=⟨_,rfl⟩
     have hx4:Below w2.heap.size w2 w4:=by rw[hw4];exact au lQ (Nat.le_refl _) _ _ _
     have hS:=bC (v0:=.int .i64 kk) (v1:=.int .i64 kn) (v2:=.string ku) u0' u1' u2'
     rw[<-hw4]at hS
     have u0:=hS 0 _ rfl
     have u1:=hS 1 _ rfl
     have u2:=hS 2 _ rfl
     rw[<-hw4]
     obtain ⟨G,hG⟩: ∃G,w2.heap.size=G:=⟨_,rfl⟩
     rw[hG]at u0 u1 u2
     rw[hG]
     clear hS u0' u1' u2' F0' F1' F2'
     clear hw4 hG f0 f1 f2 f3 f4 f5 f0' f1' f2' f3' f4' f5' d0 d1 d2 d3 d4 d5 eu oQ lQ fB ou kT gK dh
     have fH:=hide (cZ.out.keep hx4)
     have ZW:=hide (Z2.out.below hx4)
     have gF:Hid (r<=st.length):=hide (by rw[HST.out.len];omega)
     have hszW:w.heap.size<=w4.heap.size:=fH.out.below.size
     have hG4:G<w4.heap.size:=lt_of_cell u0
     have r1:(r:Int)<=(r:Int):=by have h1:=HST.out.stk.cap.1;have h2:=HST.out.len;omega
     clear hx4
     go_wp2
     go_region_held3 (λV=>V.cell? ⟨G,0,none⟩=some (.int .i64 kk)/\V.cell? ⟨G,1,none⟩=some (.int .i64 kn)/\V.cell? ⟨G,2,none⟩=some (.string ku)) (first|exact ⟨u0,u1,u2⟩|exact ⟨ah ((Below.refl _ _).drew.alloc (Nat.le_refl _) _) hG4 u0,ah ((Below.refl _ _).drew.alloc (Nat.le_refl _) _) hG4 u1,ah ((Below.refl _ _).drew.alloc (Nat.le_refl _) _) hG4 u2⟩|exact ⟨ah dC vU (ah ((Below.refl _ _).drew.alloc (Nat.le_refl _) _) hG4 u0),ah dC vU (ah ((Below.refl _ _).drew.alloc (Nat.le_refl _) _) hG4 u1),ah dC vU (ah ((Below.refl _ _).drew.alloc (Nat.le_refl _) _) hG4 u2)⟩) (first|(refine jv (α:=Val) _ rfl (.tmp 41) (.tmp 43) 59 rfl w.heap.size 74 i0 _ 32 Tryz.underlying59 hi hy0 hy1 hy2 rfl (by decide) B r r st (fH.out.stk.keep ((Below.refl _ _).drew.alloc (Nat.le_refl _) _)) gF.out rfl ⟨kk,kn,ku⟩ Ni.out w4.heap.size rfl (bX _ _ _ _ rfl) (by omega) (by simp;omega) ?_;intro A' c' w7 tQ dC;have vU:G<(World.alloc w4.drew (.cells #[.int .i64 kk,.int .i64 kn,.string ku] 74)).heap.size:=(by simp;omega);have HP:Hid (VSt 74 w w7 (st.take r++[⟨kk,kn,ku⟩]) (r+1) A' c'):=hide ⟨tQ,(by rw[List.length_append,List.length_take,Nat.min_eq_left gF.out];rfl),(fH.out.below.drew.alloc (by simp;omega) _).trans (dC.mono (by simp;omega))⟩;have QD:Hid (Zr w7 w.heap.size):=hide ((ZW.out.drew.below af).below dC)))
     go_wp2
     go_roundw
     case rel=>exact ⟨k+1,r+1,hs',ks',_,A',c',by omega,by omega,by go_num,rfl,by rw[<-yt.out];exact HR2.out,HP.out,QD.out⟩
     case measure=>simp[intOf];omega
   ·have fB:Below w2.heap.size w2 (w2.alloc (.cells #[.int .i64 0,.int .i64 0,.string ⟨#[]⟩] 74)).drew:=((Below.refl _ _).alloc (Nat.le_refl _) _).drew
    have eu:Hid (In (w2.alloc (.cells #[.int .i64 0,.int .i64 0,.string ⟨#[]⟩] 74)).drew (some ⟨g,r*3,none⟩) m (cb-r) (st.drop r)):=hide (hin.below fB)
    have oQ:Hid (In w2.drew (some ⟨g,r*3,none⟩) m (cb-r) (st.drop r)):=hide (hin.below (Below.refl _ _).drew)
    clear hin
    have ou:w2.heap.size<(w2.alloc (.cells #[.int .i64 0,.int .i64 0,.string ⟨#[]⟩] 74)).drew.heap.size:=by simp
    have kT:b<(w2.alloc (.cells #[.int .i64 0,.int .i64 0,.string ⟨#[]⟩] 74)).drew.heap.size:=by simp;omega
    have hbg:b≠w2.heap.size:=by omega
    have Zv:Hid (Zr (w2.alloc (.cells #[.int .i64 0,.int .i64 0,.string ⟨#[]⟩] 74)).drew w2.heap.size):=hide (Zr.drew (Zr.made w2 _))
    obtain ⟨u0,u1,u2,F0,F1,F2,_⟩:=Zv.out
    have d0:=ah fB hB2 f0
    have d1:=ah fB hB2 f1
    have d2:=ah fB hB2 f2
    have d3:=ah fB hB2 f3
    have d4:=ah fB hB2 f4
    have d5:=ah fB hB2 f5
    go_wp2
    go_region_held3 (λV=>V.cell? ⟨b,off+k*6,none⟩=some (.int .i64 x.op)/\V.cell? ⟨b,off+k*6+1,none⟩=some (.int .i64 x.value.kind)/\V.cell? ⟨b,off+k*6+2,none⟩=some (.int .i64 x.value.num)/\V.cell? ⟨b,off+k*6+3,none⟩=some (.string x.value.str)/\V.cell? ⟨b,off+k*6+4,none⟩=some (.string x.name)/\V.cell? ⟨b,off+k*6+5,none⟩=some (.int .i64 x.arity)) (first|exact ⟨f0,f1,f2,f3,f4,f5⟩|exact ⟨f0',f1',f2',f3',f4',f5'⟩|exact ⟨d0,d1,d2,d3,d4,d5⟩|exact ⟨dB f0' hbg,dB f1' hbg,dB f2' hbg,dB f3' hbg,dB f4' hbg,dB f5' hbg⟩|exact ⟨ah (b:=b) (af (w:=w5)) gK f0',ah (b:=b) (af (w:=w5)) gK f1',ah (b:=b) (af (w:=w5)) gK f2',ah (b:=b) (af (w:=w5)) gK f3',ah (b:=b) (af (w:=w5)) gK f4',ah (b:=b) (af (w:=w5)) gK f5'⟩|exact ⟨dB (ah (b:=b) (af (w:=w5)) gK f0') dh,dB (ah (b:=b) (af (w:=w5)) gK f1') dh,dB (ah (b:=b) (af (w:=w5)) gK f2') dh,dB (ah (b:=b) (af (w:=w5)) gK f3') dh,dB (ah (b:=b) (af (w:=w5)) gK f4') dh,dB (ah (b:=b) (af (w:=w5)) gK f5') dh⟩) (first|(go_at_call 181;refine (sG zs x SP.out.sh SP.out.n21 m SP.out.ar _ _ _ (st.drop r) eu.out SP.out.val _ _ _ cols (hc2.below fB) _ _ _ row (hr2.below fB) Vd.out _ _ _ (hz2.below fB)).mono ?_;rintro e w5 ⟨rfl,hb5⟩;rw[yt.out];simp only[Val.cells];have hQ:Hid (w2.heap.size=w2.heap.size):=hide rfl;have f0':=ah hb5 kT d0;have f1':=ah hb5 kT d1;have f2':=ah hb5 kT d2;have f3':=ah hb5 kT d3;have f4':=ah hb5 kT d4;have f5':=ah hb5 kT d5;have u0':=ah hb5 ou u0;have u1':=ah hb5 ou u1;have u2':=ah hb5 ou u2;have F0':=((ai hb5).2 _ _ ou).trans F0;have F1':=((ai hb5).2 _ _ ou).trans F1;have F2':=((ai hb5).2 _ _ ou).trans F2;have lQ:Below w2.heap.size w2 w5:=fB.trans (hb5.mono fB.size);have gK:b<w5.heap.size:=Nat.lt_of_lt_of_le hB2 lQ.size;have dh:b≠w5.heap.size:=(by omega);clear hb5 u0 u1 u2 F0 F1 F2)|(go_at_call 181;refine (sG zs x SP.out.sh SP.out.n21 m SP.out.ar _ _ _ (st.drop r) oQ.out SP.out.val _ _ _ cols (hc2.below (Below.refl _ _).drew) _ _ _ row (hr2.below (Below.refl _ _).drew) Vd.out _ _ _ (hz2.below (Below.refl _ _).drew)).mono ?_;rintro e w5 ⟨rfl,hb5⟩;rw[yt.out];simp only[Val.cells];have f0':=ah (ag hb5) hB2 f0;have f1':=ah (ag hb5) hB2 f1;have f2':=ah (ag hb5) hB2 f2;have f3':=ah (ag hb5) hB2 f3;have f4':=ah (ag hb5) hB2 f4;have f5':=ah (ag hb5) hB2 f5;have lQ:Below w2.heap.size w2 w5:=ag hb5;have gK:b<w5.heap.size:=Nat.lt_of_lt_of_le hB2 lQ.size;have dh:b≠w5.heap.size:=(by omega);clear hb5 u0 u1 u2 F0 F1 F2))
    ·obtain ⟨w4,hw4⟩: ∃w4,w4=w5.alloc (.cells #[.int .i64 kk,.int .i64 kn,.string ku] 74):=⟨_,rfl⟩
     have hx4:Below w2.heap.size w2 w4:=by rw[hw4];exact lQ.alloc lQ.size _
     have u0:w4.cell? ⟨w5.heap.size,0,none⟩=some (.int .i64 kk):=by rw[hw4];simp[go_sem]
     have u1:w4.cell? ⟨w5.heap.size,1,none⟩=some (.int .i64 kn):=by rw[hw4];simp[go_sem]
     have u2:w4.cell? ⟨w5.heap.size,2,none⟩=some (.string ku):=by rw[hw4];simp[go_sem]
     rw[<-hw4]
     obtain ⟨G,hG⟩: ∃G,w5.heap.size=G:=⟨_,rfl⟩
     rw[hG]at u0 u1 u2
     rw[hG]
     clear hw4 hG f0 f1 f2 f3 f4 f5 f0' f1' f2' f3' f4' f5' d0 d1 d2 d3 d4 d5 eu oQ lQ fB ou kT gK dh
     have fH:=hide (cZ.out.keep hx4)
     have ZW:=hide (Z2.out.below hx4)
     have gF:Hid (r<=st.length):=hide (by rw[HST.out.len];omega)
     have hszW:w.heap.size<=w4.heap.size:=fH.out.below.size
     have hG4:G<w4.heap.size:=lt_of_cell u0
     have r1:(r:Int)<=(cb:Int):=by have h1:=HST.out.stk.cap.1;have h2:=HST.out.len;omega
     clear hx4
     go_wp2
     go_region_held3 (λV=>V.cell? ⟨G,0,none⟩=some (.int .i64 kk)/\V.cell? ⟨G,1,none⟩=some (.int .i64 kn)/\V.cell? ⟨G,2,none⟩=some (.string ku)) (first|exact ⟨u0,u1,u2⟩|exact ⟨ah ((Below.refl _ _).drew.alloc (Nat.le_refl _) _) hG4 u0,ah ((Below.refl _ _).drew.alloc (Nat.le_refl _) _) hG4 u1,ah ((Below.refl _ _).drew.alloc (Nat.le_refl _) _) hG4 u2⟩|exact ⟨ah dC vU (ah ((Below.refl _ _).drew.alloc (Nat.le_refl _) _) hG4 u0),ah dC vU (ah ((Below.refl _ _).drew.alloc (Nat.le_refl _) _) hG4 u1),ah dC vU (ah ((Below.refl _ _).drew.alloc (Nat.le_refl _) _) hG4 u2)⟩) (first|(refine jv (α:=Val) _ rfl (.tmp 41) (.tmp 43) 59 rfl w.heap.size 74 i0 _ 32 Tryz.underlying59 hi hy0 hy1 hy2 rfl (by decide) (some ⟨g,0,none⟩) cb r st (fH.out.stk.keep ((Below.refl _ _).drew.alloc (Nat.le_refl _) _)) gF.out rfl ⟨kk,kn,ku⟩ Ni.out w4.heap.size rfl (bX _ _ _ _ rfl) (by omega) (by simp;omega) ?_;intro A' c' w7 tQ dC;have vU:G<(World.alloc w4.drew (.cells #[.int .i64 kk,.int .i64 kn,.string ku] 74)).heap.size:=(by simp;omega);have HP:Hid (VSt 74 w w7 (st.take r++[⟨kk,kn,ku⟩]) (r+1) A' c'):=hide ⟨tQ,(by rw[List.length_append,List.length_take,Nat.min_eq_left gF.out];rfl),(fH.out.below.drew.alloc (by simp;omega) _).trans (dC.mono (by simp;omega))⟩;have QD:Hid (Zr w7 w.heap.size):=hide ((ZW.out.drew.below af).below dC)))
     go_wp2
     go_roundw
     case rel=>exact ⟨k+1,r+1,hs',ks',_,A',c',by omega,by omega,by go_num,rfl,by rw[<-yt.out];exact HR2.out,HP.out,QD.out⟩
     case measure=>simp[intOf];omega
    ·obtain ⟨w4,hw4⟩: ∃w4,w4=((w5.setCell ⟨w2.heap.size,0,none⟩ (.int .i64 kk)).setCell ⟨w2.heap.size,1,none⟩ (.int .i64 kn)).setCell ⟨w2.heap.size,2,none⟩ (.string ku):=⟨_,rfl⟩
     have hx4:Below w2.heap.size w2 w4:=by rw[hw4];exact au lQ (Nat.le_refl _) _ _ _
     have hS:=bC (v0:=.int .i64 kk) (v1:=.int .i64 kn) (v2:=.string ku) u0' u1' u2'
     rw[<-hw4]at hS
     have u0:=hS 0 _ rfl
     have u1:=hS 1 _ rfl
     have u2:=hS 2 _ rfl
     rw[<-hw4]
     obtain ⟨G,hG⟩: ∃G,w2.heap.size=G:=⟨_,rfl⟩
     rw[hG]at u0 u1 u2
     rw[hG]
     clear hS u0' u1' u2' F0' F1' F2'
     clear hw4 hG f0 f1 f2 f3 f4 f5 f0' f1' f2' f3' f4' f5' d0 d1 d2 d3 d4 d5 eu oQ lQ fB ou kT gK dh
     have fH:=hide (cZ.out.keep hx4)
     have ZW:=hide (Z2.out.below hx4)
     have gF:Hid (r<=st.length):=hide (by rw[HST.out.len];omega)
     have hszW:w.heap.size<=w4.heap.size:=fH.out.below.size
     have hG4:G<w4.heap.size:=lt_of_cell u0
     have r1:(r:Int)<=(cb:Int):=by have h1:=HST.out.stk.cap.1;have h2:=HST.out.len;omega
     clear hx4
     go_wp2
     go_region_held3 (λV=>V.cell? ⟨G,0,none⟩=some (.int .i64 kk)/\V.cell? ⟨G,1,none⟩=some (.int .i64 kn)/\V.cell? ⟨G,2,none⟩=some (.string ku)) (first|exact ⟨u0,u1,u2⟩|exact ⟨ah ((Below.refl _ _).drew.alloc (Nat.le_refl _) _) hG4 u0,ah ((Below.refl _ _).drew.alloc (Nat.le_refl _) _) hG4 u1,ah ((Below.refl _ _).drew.alloc (Nat.le_refl _) _) hG4 u2⟩|exact ⟨ah dC vU (ah ((Below.refl _ _).drew.alloc (Nat.le_refl _) _) hG4 u0),ah dC vU (ah ((Below.refl _ _).drew.alloc (Nat.le_refl _) _) hG4 u1),ah dC vU (ah ((Below.refl _ _).drew.alloc (Nat.le_refl _) _) hG4 u2)⟩) (first|(refine jv (α:=Val) _ rfl (.tmp 41) (.tmp 43) 59 rfl w.heap.size 74 i0 _ 32 Tryz.underlying59 hi hy0 hy1 hy2 rfl (by decide) (some ⟨g,0,none⟩) cb r st (fH.out.stk.keep ((Below.refl _ _).drew.alloc (Nat.le_refl _) _)) gF.out rfl ⟨kk,kn,ku⟩ Ni.out w4.heap.size rfl (bX _ _ _ _ rfl) (by omega) (by simp;omega) ?_;intro A' c' w7 tQ dC;have vU:G<(World.alloc w4.drew (.cells #[.int .i64 kk,.int .i64 kn,.string ku] 74)).heap.size:=(by simp;omega);have HP:Hid (VSt 74 w w7 (st.take r++[⟨kk,kn,ku⟩]) (r+1) A' c'):=hide ⟨tQ,(by rw[List.length_append,List.length_take,Nat.min_eq_left gF.out];rfl),(fH.out.below.drew.alloc (by simp;omega) _).trans (dC.mono (by simp;omega))⟩;have QD:Hid (Zr w7 w.heap.size):=hide ((ZW.out.drew.below af).below dC)))
     go_wp2
     go_roundw
     case rel=>exact ⟨k+1,r+1,hs',ks',_,A',c',by omega,by omega,by go_num,rfl,by rw[<-yt.out];exact HR2.out,HP.out,QD.out⟩
     case measure=>simp[intOf];omega
  ·have HX:=hide (aP hx.len (show n<=k by omega))
   obtain ⟨rfl,v,rfl,hval⟩:=HR.out.last HX.out
   have HV:=hide hval
   clear hval
   have eu:Hid (In wr B 1 cb [v]):=hide (by have:=HST.out.stk.inn;rw[HST.out.len]at this;exact this)
   obtain ⟨b3,Db,y,rfl,hB3,HY,y0,y1,y2,_⟩:=eu.out.val (show 0<1 by omega)
   have hy:v=y:=by have:=HY.out;rw[List.drop_zero]at this;injection this with this _
   subst hy
   obtain ⟨vk,vn,vs⟩:=v
   simp only[Nat.zero_mul,Nat.add_zero]at y0 y1 y2
   have k0:(0:Int)<(1:Int):=by omega
   obtain ⟨z0,z1,z2,F0,F1,F2,_⟩:=Z.out
   have hbb:=HST.out.below
   go_wp2
   refine gH rfl Z.out rfl rfl ⟨by rw[HV.out],au hbb (Nat.le_refl _) _ _ _⟩
theorem nC {w:World}{A:Option Addr}{n c:Nat}{cols:List Col}(h:In w A n c cols): ∀x∈cols,ig x.kind:=by
 intro x hx
 obtain ⟨i,hi,rfl⟩:=List.mem_iff_getElem.1 hx
 have hn:i<n:=by rw[<-h.len];exact hi
 obtain ⟨b,off,y,_,_,HY,_,_,_,hok⟩:=h.col hn
 have:=(dS HY.out).1
 rw[List.getElem?_eq_getElem hi]at this
 injection this with this
 rw[this];exact hok.2
theorem Lv (w:World)(A:Option Addr)(n c:Nat)(es:List Node)(hx:In w A n c es)(A1:Option Addr)(n1 c1:Nat)(cols:List Col)(hc:In w A1 n1 c1 cols)(A3:Option Addr)(n3 c3:Nat)(row:List Val)(hr:In w A3 n3 c3 row)(A2:Option Addr)(n2 c2:Nat)(zs:List Zone)(hz:In w A2 n2 c2 zs):
  Calls Tryz.prog 108 #[.slice A n c,.slice A1 n1 c1,.slice A3 n3 c3,.slice A2 n2 c2] w λe w'=>e=.returned (.tuple #[.agg (iI es cols row zs).2.cells.toArray,.int .i64 (iI es cols row zs).1])/\Below w.heap.size w w':=by
 go_enter Tryz.func108,Tryz.ntmps108
 go_wp2_with fail
 refine (vo _ _ _ _ es (hx.below af) _ _ _ cols (hc.below af) (nC hc) _ _ _ zs (hz.below af)).mono ?_
 rintro e w1 ⟨rfl,hb1⟩
 have Z:=hide ((Zr.made w 74).below hb1)
 have hbb:=aa af hb1
 clear hb1
 obtain ⟨te,ht⟩: ∃q,cK es cols zs=q:=⟨_,rfl⟩
 obtain ⟨te,tk⟩:=te
 have HT:=hide ht
 rw[ht]
 clear ht
 by_cases h0:¬te=0
 ·have HN:Hid (iI es cols row zs=(te,aW)):=hide (by rw[iI,HT.out,if_pos h0])
  have q:(te != 0)=true:=by simpa using h0
  obtain ⟨z0,z1,z2,f0,f1,f2,_⟩:=Z.out
  clear h0
  go_wp2
  refine bodyPost_ret (v:=.tuple #[.agg (Val.cells aW).toArray,.int .i64 (te)]) (aA (cs:=Val.cells aW) rfl _ _ w.heap.size _ _ rfl rfl (bC z0 z1 z2) Tryz.underlying74 rfl (by kernel_rfl)) rfl ⟨by rw[HN.out],au hbb (Nat.le_refl _) _ _ _⟩
 replace h0:te=0:=by omega
 subst h0
 go_wp2_with fail
 refine (uH _ _ _ _ _ _ _ cols row (hc.below hbb) (hr.below hbb)).mono ?_
 rintro e w2 ⟨rfl,hb2⟩
 have Z:=hide (Z.out.below hb2)
 have hbb:=aa hbb hb2
 clear hb2
 by_cases h1:¬aS cols row=0
 ·have HN:Hid (iI es cols row zs=(aS cols row,aW)):=hide (by rw[iI,HT.out,if_neg (by simp),if_pos h1])
  have q:(aS cols row != 0)=true:=by simpa using h1
  obtain ⟨z0,z1,z2,f0,f1,f2,_⟩:=Z.out
  clear h1
  go_wp2
  refine bodyPost_ret (v:=.tuple #[.agg (Val.cells aW).toArray,.int .i64 (aS cols row)]) (aA (cs:=Val.cells aW) rfl _ _ w.heap.size _ _ rfl rfl (bC z0 z1 z2) Tryz.underlying74 rfl (by kernel_rfl)) rfl ⟨by rw[HN.out],au hbb (Nat.le_refl _) _ _ _⟩
 replace h1:aS cols row=0:=by omega
 have HR:=hide h1
 have HN:Hid (iI es cols row zs=(0,jg cols row zs [] es)):=hide (by rw[iI,HT.out,if_neg (by simp),if_neg (by simp[h1])])
 rw[h1]
 clear h1
 go_wp2_with fail
 refine (Nc _ _ _ _ es (hx.below hbb) _ _ _ cols (hc.below hbb) _ _ _ row (hr.below hbb) _ _ _ zs (hz.below hbb) (by rw[HT.out]) HR.out).mono ?_
 rintro e w3 ⟨rfl,hb3⟩
 have Z:=hide (Z.out.below hb3)
 have hbb:=aa hbb hb3
 clear hb3
 obtain ⟨⟨vk,vn,vs⟩,hv⟩: ∃q,jg cols row zs [] es=q:=⟨_,rfl⟩
 rw[hv]at HN
 rw[hv]
 simp only[Val.cells]
 clear hv
 obtain ⟨z0,z1,z2,f0,f1,f2,_⟩:=Z.out
 go_wp2
 refine bodyPost_ret (v:=.tuple #[.agg (Val.cells ⟨vk,vn,vs⟩).toArray,.int .i64 0]) (aA (cs:=Val.cells ⟨vk,vn,vs⟩) rfl _ _ w.heap.size _ _ rfl rfl (bC z0 z1 z2) Tryz.underlying74 rfl (by kernel_rfl)) rfl ⟨by rw[HN.out],au hbb (Nat.le_refl _) _ _ _⟩
end Go.Proofs.YtggejcekmehocaaGreatDoor
