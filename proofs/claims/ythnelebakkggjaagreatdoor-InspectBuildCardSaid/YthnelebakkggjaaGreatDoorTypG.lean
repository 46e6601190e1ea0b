/-
  scalar.Type: it returns typeS. (Printed by gen_type.py.)
-/
import Derived.Test.YthnelebakkggjaaGreatDoorGav
namespace Go.Proofs.YthnelebakkggjaaGreatDoor
set_option maxHeartbeats 40000000
set_option maxRecDepth 100000
open Go.RowKit
set_option linter.unusedSimpArgs false
set_option linter.unusedVariables false
theorem K3:(Tryz.prog.info? 165).map (λi=>(i.zero,i.size,i.bytes))=some (some (.agg #[.int .i64 0,.bool false]),2,16):=by kernel_rfl
structure KSt (T:TypeId) (w wr:World) (st:List Kd) (d:Nat) (A:Option Addr) (c:Nat):Prop where
 stk:Stk w.heap.size wr T A c st
 len:st.length=d
 b:Below w.heap.size w wr
theorem KSt.keep {T:TypeId}{w wr w':World}{st:List Kd}{d:Nat}{A:Option Addr}{c:Nat}(h:KSt T w wr st d A c)(hb:Below wr.heap.size wr w'):KSt T w w' st d A c:=
 ⟨h.stk.keep hb,h.len,eu h.b hb⟩
theorem ll (name:ByteArray): ∀(l:List Col) (k:Nat),fU name k l= -1\/((k:Int)<=fU name k l/\fU name k l<k+l.length)
 | [],k=>.inl rfl
 |z::l,k=>by
  rw[fU]
  split
  ·exact .inr ⟨Ho,by simp;omega⟩
  ·rcases ll name l (k+1) with h|h
   ·exact .inl h
   ·exact .inr ⟨Ho,by simp;omega⟩
theorem rG {B c:Nat}{a w:World}(h:Below B a w)(b:B<=c)(u v:Value):Below B a ((w.setCell ⟨c,0,none⟩ u).setCell ⟨c,1,none⟩ v):=(h.setCell b u).setCell b v
theorem tQ {x:Node}{l:List Kd}(g:x.ok)(f: ∀k∈l,jP k.kind){r:Nat}:jP (fJ x (l.drop r)).1.kind:=by
 have h:jP 1:=by unfold jP;omega
 have i:jP 2:=by unfold jP;omega
 have j:jP 3:=by unfold jP;omega
 have m:jP 4:=by unfold jP;omega
 have d: ∀k∈l.drop r,jP k.kind:=λk e=>f k (List.mem_of_mem_drop e);revert d;generalize l.drop r=q;intro d
 match q,d with
 | [],_=>exact g.2.1.1
 | [a],_=>simp only[fJ,jc];(repeat' split)<;>assumption
 | [a,b],d=>
  have n:=d a II;have hb:=d b II;simp only[fJ,fH,common]
  (repeat' split)<;>first|assumption|(simp only;(repeat' split)<;>assumption)
 |a::b::c::_,d=>
  have hb:=d b II;have o:=d c II;simp only[fJ,common]
  (repeat' split)<;>assumption
theorem zT {es:List Node}{cols:List Col}{zs:List Zone}(h:gV es cols zs=0):gY es=0:=by
 rw[gV]at h
 split at h
 ·omega
 ·rename_i q;omega
theorem jK {cols:List Col}{zs:List Zone}{st:List Kd}{x:Node}{l:List Node}{r m:Nat}{e:Int}(c:arity x.op x.arity=(m:Int))(b:st.length=r+m)(h:(fo cols zs x (st.drop r)).1=e)(a:e≠0):
  fT cols zs st (x::l)=(e,default):=by
 rw[fT,b,rz c,if_pos (by rw[h];exact a),h]
theorem jM {cols:List Col}{zs:List Zone}{st:List Kd}{x:Node}{l:List Node}{r m:Nat}{k:Kd}(b:arity x.op x.arity=(m:Int))(a:st.length=r+m)(h:fo cols zs x (st.drop r)=(0,k)):
  fT cols zs st (x::l)=fT cols zs (st.take r++[k]) l:=by
 rw[fT,a,rz b,h,if_neg II]
theorem D8 (w:World)(A:Option Addr)(n c:Nat)(es:List Node)(hx:In w A n c es)(hw:Words w)(A1:Option Addr)(n1 c1:Nat)(cols:List Col)(hc:In w A1 n1 c1 cols)(A2:Option Addr)(n2 c2:Nat)(zs:List Zone)(hz:In w A2 n2 c2 zs):
  Calls Tryz.prog 123 #[.slice A n c,.slice A1 n1 c1,.slice A2 n2 c2] w λe w'=>e=.returned (.tuple #[.int .i64 (ig es cols zs).2.kind,.bool (ig es cols zs).2.null,.int .i64 (ig es cols zs).1])/\Below w.heap.size w w':=by
 have a5:=hx.le;have a6:=hc.le;obtain⟨i0,hi,aC,aD,aE⟩:=info_parts K3;go_enter Tryz.func123,Tryz.ntmps123;go_wp2_with fail;refine(Gm _ _ _ _ es hx hw _ _ _ cols hc _ _ _ zs hz).mono ?_;rintro e w1 ⟨rfl,aN⟩;by_cases R:¬gV es cols zs=0
 ·have M:Hl (ig es cols zs=(gV es cols zs,default)):=Hm (by rw[ig,if_pos R]);have q:(gV es cols zs != 0)=true:=by simpa using R
  clear R;go_wp2
  go_ret3
  exact⟨by rw[M.o];rfl,aN⟩
 replace R:gV es cols zs=0:=by omega
 have HT:Hl (ig es cols zs=fT cols zs [] es):=Hm (by rw[ig,if_neg (by simp[R])]);have HE:=Hm (nC (zT R));have ba:n<=256:=by have:=HE.o.1;rw[hx.len]at this;exact this
 rw[R];clear R;go_wp2;go_loopw [10,28] (λv i wr=> ∃(k d:Nat) (st:List Kd) (hs:List Int) (B:Option Addr) (cb:Nat),k<=n/\d<=k/\i=.int .i64 k/\v=.slice B d cb/\(fT cols zs [] es=fT cols zs st (es.drop k)/\hs.length=d/\fZ hs (es.drop k)=0)/\KSt 165 w wr st d B cb) (λ_ i _=>n-(intOf i).toNat)
 case atStart=>exact⟨0,0,[],[],none,0,Nat.zero_le _,Nat.zero_le _,rfl,rfl,⟨rfl,rfl,HE.o.2⟩,⟨Stk.nil_ _ _ _,rfl,aN⟩⟩
 case round=>
  obtain⟨k,d,st,hs,B,cb,hk,a8,rfl,rfl,aO,aR⟩:=hrel;have HQ:=Hm aO;have t:=Hm aR;clear aO aR;by_cases a0:k<n
  ·obtain⟨b,off,x,rfl,hB,HX,f0,f1,f2,f3,f4,f5,aA⟩:=(hx.b t.o.b).node a0;have au:=Hm aA;have NA:=Hm (gM.made wr x);have HV:Hl (fZ hs (x::es.drop (k+1))=0):=Hm (by rw[<-HX.o];exact HQ.o.2.2);obtain⟨m,r,aB,aQ,hm,a9,rfl,aP,aT⟩:=pF HV.o HQ.o.2.1;have T:=Hm hm;have av:=Hm aQ;have ax:=Hm aP;have ay:=Hm aT;clear hm aQ aP aT HV;go_wp2_with fail;refine(qU x _).mono ?_;rintro e a ⟨rfl,aG⟩;rw[T.o];obtain⟨g0,g1,g2,g3,g4,g5⟩:=NA.o.b aG II;have u:=Hm ((t.o.keep eB).keep aG);have z2:wr.heap.size<a.heap.size:=by have:=aG.size;simp at this;omega
   clear aG f0 f1 f2 f3 f4 f5;by_cases Q:x.op=1
   ·have q1:(x.op==1)=true:=by simpa using Q
    have HO:=Hm Q;clear Q;go_wp2_with fail;refine(wT _ _ _ _ cols (hc.b (eu u.o.b eB)) x.name).mono ?_;rintro e w3 ⟨rfl,ae⟩;have aw:=eu (eB (w:=a)) ae;rcases ll x.name cols 0 with hr|⟨a2,a3⟩
    ·have M:Hl (ig es cols zs=(5,default)):=Hm (by rw[HT.o,HQ.o.1,HX.o,jK T.o t.o.len (e:=5) (by rw[fo,if_pos HO.o,if_pos (by rw[index,hr];omega)]) Ho]);rw[show index cols x.name= -1 from hr];clear hr;go_wp2
     go_ret3
     exact⟨by rw[M.o];rfl,eu u.o.b aw⟩
    ·obtain⟨j,hj⟩: ∃j:Nat,index cols x.name=(j:Int):=⟨(index cols x.name).toNat,by rw[index];omega⟩;have aZ:j<n1:=by have:=hc.len;rw[index]at hj;omega
     obtain⟨b',aU,y,rfl,aM,HY,E,v1,v2,a4⟩:=hc.col aZ;have aS:=eu u.o.b aw;have aK:=eG aS aM v1;have aL:=eG aS aM v2;have s:=eG (b:=a.heap.size) (o:=0) (v:=.int .i64 0) ae II (by simp[go_sem]);have z:=eG (b:=a.heap.size) (o:=1) (v:=.bool false) ae II (by simp[go_sem]);have F0:=(eO ae).2 a.heap.size 0 II;have F1:=(eO ae).2 a.heap.size 1 II;simp[go_sem]at F0 F1;have az:¬b'=a.heap.size:=by have:=u.o.b.size;omega
     have an:Hl (fo cols zs x (st.drop r)=(0,⟨y.kind,y.nullable⟩)):=Hm (by
      have hy:cols.getD (index cols x.name).toNat default=y:=by rw[hj,Int.toNat_natCast,List.getD,(iI HY.o).1];rfl
      rw[fo,if_pos HO.o,if_neg (by rw[hj];omega),hy])
     have G:(0:Int)<=(j:Int):=by omega
     have H:(j:Int)<(n1:Int):=by omega
     rw[hj];have aV:=Hm aw;clear a2 a3 hj ae aw E v1 v2;go_wp2
     first|(go_region_held3 (λV=>V.cell? ⟨b',aU+j*3+1,none⟩=some (.int .i64 y.kind)/\V.cell? ⟨b',aU+j*3+2,none⟩=some (.bool y.nullable)) (first|exact⟨aK,aL⟩|exact⟨eD (eD aK (.inl az)) (.inl az),eD (eD aL (.inl az)) (.inl az)⟩) (first|fail))|fail
     obtain⟨p,F⟩: ∃p,p=((w3.setCell ⟨a.heap.size,0,none⟩ (.int .i64 y.kind)).setCell ⟨a.heap.size,1,none⟩ (.bool y.nullable)).drew:=⟨_,rfl⟩;have ag:Below a.heap.size a p:=by rw[F];exact((aV.o.setCell II _).setCell II _).drew
     obtain⟨S0,S1⟩:=gH s z;have aa:p.cell? ⟨a.heap.size,0,none⟩=some (.int .i64 y.kind):=by rw[F];exact(World.cell?_setCell_other (w3.setCell ⟨a.heap.size,0,none⟩ (.int .i64 y.kind)) ⟨a.heap.size,1,none⟩ ⟨a.heap.size,0,none⟩ _ (by intro e;injection e with _ e _;omega)).trans (S0 _)
     have ab:p.cell? ⟨a.heap.size,1,none⟩=some (.bool y.nullable):=by rw[F];exact S1 _ _
     clear S0 S1 s z F0 F1 aK aL az;rw[<-F];clear F;have s:=aa;have z:=ab;clear aa ab;have M:Hl (fT cols zs [] es=fT cols zs (st.take r++[⟨y.kind,y.nullable⟩]) (es.drop (k+1))):=Hm (by rw[HQ.o.1,HX.o,jM T.o t.o.len (k:=⟨y.kind,y.nullable⟩) (an.o)]);have X:=Hm (u.o.keep ag);have O:Hl (r<=st.length):=Hm (by rw[t.o.len];omega);have aI:w.heap.size<=p.heap.size:=X.o.b.size;have P:a.heap.size<p.heap.size:=lt_of_cell s;have ad:Hl ((Value.slice B r cb).ownBlock≠some a.heap.size):=Hm (λe=>by have hq:=u.o.stk.take O.o;have hl:(st.take r).length=r:=List.length_take_of_le O.o;have:=hq.blk a.heap.size (hl.symm▸e);omega);have r0:(0:Int)<=(r:Int):=by omega
     have r1:(r:Int)<=(cb:Int):=by have Z:=t.o.stk.cap.1;have h2:=t.o.len;omega
     clear ag;go_wp2;go_region_held3 (λV=>V.cell? ⟨a.heap.size,0,none⟩=some (.int .i64 y.kind)/\V.cell? ⟨a.heap.size,1,none⟩=some (.bool y.nullable)) (first|exact⟨s,z⟩|exact⟨eG ((IJ).drew.alloc IK _) P s,eG ((IJ).drew.alloc IK _) P z⟩|exact⟨(World.cell?_of_block (af _ (by simp;omega) ad.o)).trans (eG ((IJ).drew.alloc IK _) P s),(World.cell?_of_block (af _ (by simp;omega) ad.o)).trans (eG ((IJ).drew.alloc IK _) P z)⟩) (first|(refine jO (α:=Kd) _ rfl (.tmp 92) (.tmp 94) 163 rfl w.heap.size 165 i0 _ 16 Tryz.underlying163 hi aC aD aE rfl (by decide) B cb r st (X.o.stk.keep ((IJ).drew.alloc IK _)) O.o rfl ⟨y.kind,y.nullable⟩ a4.2 p.heap.size rfl (gU _ _ _ _ rfl) Ho (by simp;omega) ?_;intro A' c' N ap D af;have HP:Hl (KSt 165 w N (st.take r++[⟨y.kind,y.nullable⟩]) (r+1) A' c'):=Hm ⟨ap,(by rw[List.length_append,List.length_take,Nat.min_eq_left O.o];rfl),(X.o.b.drew.alloc (by simp;omega) _).trans D⟩));go_wp2;go_roundw
     case rel=>exact⟨k+1,r+1,_,aB,A',c',Ho,Ho,by go_num,rfl,⟨M.o,ax.o,ay.o⟩,HP.o⟩
     case measure=>simp[intOf];omega
   ·have q1:(x.op==1)=false:=by simpa using Q
    by_cases W:x.op=21
    ·have q2:(x.op==21)=true:=by simpa using W
     have M:Hl (ig es cols zs=(5,default)):=Hm (by rw[HT.o,HQ.o.1,HX.o,jK T.o t.o.len (e:=5) (by rw[fo,if_neg Q,if_pos W]) Ho]);clear Q W;go_wp2
     go_ret3
     exact⟨by rw[M.o];rfl,eu u.o.b eB⟩
    ·have q2:(x.op==21)=false:=by simpa using W
     by_cases o3:x.op=20
     ·have q3:(x.op==20)=true:=by simpa using o3
      have aW:=Hm o3;clear o3;go_wp2_with fail;refine(CR _ _ _ _ zs (hz.b (eu u.o.b eB)) x.name).mono ?_;rintro e w3 ⟨⟨A3,n3,c3,rfl,aY,a1⟩,ae⟩;have aw:=eu (eB (w:=a)) ae;cases aF:decide (0<=jC zs x.name)
      ·have M:Hl (ig es cols zs=(5,default)):=Hm (by rw[HT.o,HQ.o.1,HX.o,jK T.o t.o.len (e:=5) (by rw[fo,if_neg Q,if_neg W,if_pos ⟨aW.o,by simp at aF;omega⟩]) Ho]);go_wp2
       go_ret3
       exact⟨by rw[M.o];rfl,eu (eu u.o.b aw) eB⟩
      ·obtain⟨E,ac⟩: ∃E,E=w3.alloc (.cells #[.string (iw zs x.name).name,.int .i64 (iw zs x.name).offset,.slice A3 n3 c3] 155):=⟨_,rfl⟩;have U:Below a.heap.size a E:=by rw[ac];exact eu aw eB
       have aH:a.heap.size<w3.heap.size:=by have:=ae.size;simp at this;omega
       have s:E.cell? ⟨a.heap.size,0,none⟩=some (.int .i64 0):=by rw[ac];exact eG eB aH (eG ae II (by simp[go_sem]))
       have z:E.cell? ⟨a.heap.size,1,none⟩=some (.bool false):=by rw[ac];exact eG eB aH (eG ae II (by simp[go_sem]))
       have F0:E.frozen? ⟨a.heap.size,0,none⟩=false:=by rw[ac,(eO eB).2 _ _ aH,(eO ae).2 _ _ II];simp[go_sem]
       have F1:E.frozen? ⟨a.heap.size,1,none⟩=false:=by rw[ac,(eO eB).2 _ _ aH,(eO ae).2 _ _ II];simp[go_sem]
       go_upto_region 23 with (fail);rw[<-ac];clear ac ae aw aY a1;have aq:a.heap.size<=E.heap.size:=U.size;have ar:wr.heap.size<E.heap.size:=by omega
       have C:a.heap.size<E.heap.size:=lt_of_cell s;have f:¬wr.heap.size=a.heap.size:=by omega
       have NV:Hl (gM E wr.heap.size x):=Hm (gM.b ⟨g0,g1,g2,g3,g4,g5⟩ U z2);obtain⟨R,Z,h2,h3,h4,h5⟩:=NV.o;have r0:(0:Int)<=(r:Int):=by omega
       have r2:(r:Int)<=(r:Int)+(m:Int):=by omega
       clear g0 g1 g2 g3 g4 g5;cases ao:(fJ x (st.drop r)).2
       ·rcases rW u.o.stk u.o.len with ⟨rfl,ak⟩|⟨aJ,g,rfl,aj⟩
        ·have S:Hl (In E.drew B m 0 (st.drop r)):=Hm (by rw[List.drop_eq_nil_of_le (by rw[t.o.len];omega),ak];exact Sl.empty Ho (λ_=>rfl));clear ak;go_wp2;go_region_held3 (λV=>V.cell? ⟨wr.heap.size,0,none⟩=some (.int .i64 x.op)/\V.cell? ⟨wr.heap.size,1,none⟩=some (.int .i64 x.value.kind)/\V.cell? ⟨wr.heap.size,2,none⟩=some (.int .i64 x.value.num)/\V.cell? ⟨wr.heap.size,3,none⟩=some (.string x.value.str)/\V.cell? ⟨wr.heap.size,4,none⟩=some (.string x.name)/\V.cell? ⟨wr.heap.size,5,none⟩=some (.int .i64 x.arity)) (first|exact⟨R,Z,h2,h3,h4,h5⟩|exact⟨G,H,I,J,K,L⟩|exact⟨eD (eD G (.inl f)) (.inl f),eD (eD H (.inl f)) (.inl f),eD (eD I (.inl f)) (.inl f),eD (eD J (.inl f)) (.inl f),eD (eD K (.inl f)) (.inl f),eD (eD L (.inl f)) (.inl f)⟩) (first|(go_at_call 145;refine(nz x av.o au.o Q W m T.o _ _ _ (st.drop r) S.o).mono ?_;rintro e N ⟨rfl,D⟩;have l:=eF D;have Y:=U.trans (l.mono aq);obtain⟨G,H,I,J,K,L⟩:=gM.b NV.o l ar;have aa:=eG l C s;have ab:=eG l C z;have ah:=((eO l).2 _ _ C).trans F0;have ai:=((eO l).2 _ _ C).trans F1;clear D l));have M:Hl (ig es cols zs=(7,default)):=Hm (by rw[HT.o,HQ.o.1,HX.o,jK T.o t.o.len (e:=7) (by rw[fo,if_neg Q,if_neg W,if_neg (λh=>absurd h.2 (by simp at aF;omega)),if_pos ao]) Ho]);go_wp2
         go_ret3
         exact⟨by rw[M.o];rfl,rG (u.o.b.trans (Y.mono u.o.b.size)) u.o.b.size _ _⟩
        ·have S:Hl (In E.drew (some ⟨g,r*2,none⟩) m (cb-r) (st.drop r)):=Hm ((aj.b U).b (IJ).drew);clear aj;go_wp2;go_region_held3 (λV=>V.cell? ⟨wr.heap.size,0,none⟩=some (.int .i64 x.op)/\V.cell? ⟨wr.heap.size,1,none⟩=some (.int .i64 x.value.kind)/\V.cell? ⟨wr.heap.size,2,none⟩=some (.int .i64 x.value.num)/\V.cell? ⟨wr.heap.size,3,none⟩=some (.string x.value.str)/\V.cell? ⟨wr.heap.size,4,none⟩=some (.string x.name)/\V.cell? ⟨wr.heap.size,5,none⟩=some (.int .i64 x.arity)) (first|exact⟨R,Z,h2,h3,h4,h5⟩|exact⟨G,H,I,J,K,L⟩|exact⟨eD (eD G (.inl f)) (.inl f),eD (eD H (.inl f)) (.inl f),eD (eD I (.inl f)) (.inl f),eD (eD J (.inl f)) (.inl f),eD (eD K (.inl f)) (.inl f),eD (eD L (.inl f)) (.inl f)⟩) (first|(go_at_call 145;refine(nz x av.o au.o Q W m T.o _ _ _ (st.drop r) S.o).mono ?_;rintro e N ⟨rfl,D⟩;have l:=eF D;have Y:=U.trans (l.mono aq);obtain⟨G,H,I,J,K,L⟩:=gM.b NV.o l ar;have aa:=eG l C s;have ab:=eG l C z;have ah:=((eO l).2 _ _ C).trans F0;have ai:=((eO l).2 _ _ C).trans F1;clear D l));have M:Hl (ig es cols zs=(7,default)):=Hm (by rw[HT.o,HQ.o.1,HX.o,jK T.o t.o.len (e:=7) (by rw[fo,if_neg Q,if_neg W,if_neg (λh=>absurd h.2 (by simp at aF;omega)),if_pos ao]) Ho]);go_wp2
         go_ret3
         exact⟨by rw[M.o];rfl,rG (u.o.b.trans (Y.mono u.o.b.size)) u.o.b.size _ _⟩
       ·rcases rW u.o.stk u.o.len with ⟨rfl,ak⟩|⟨aJ,g,rfl,aj⟩
        ·have S:Hl (In E.drew B m 0 (st.drop r)):=Hm (by rw[List.drop_eq_nil_of_le (by rw[t.o.len];omega),ak];exact Sl.empty Ho (λ_=>rfl));clear ak;go_wp2;go_region_held3 (λV=>V.cell? ⟨wr.heap.size,0,none⟩=some (.int .i64 x.op)/\V.cell? ⟨wr.heap.size,1,none⟩=some (.int .i64 x.value.kind)/\V.cell? ⟨wr.heap.size,2,none⟩=some (.int .i64 x.value.num)/\V.cell? ⟨wr.heap.size,3,none⟩=some (.string x.value.str)/\V.cell? ⟨wr.heap.size,4,none⟩=some (.string x.name)/\V.cell? ⟨wr.heap.size,5,none⟩=some (.int .i64 x.arity)) (first|exact⟨R,Z,h2,h3,h4,h5⟩|exact⟨G,H,I,J,K,L⟩|exact⟨eD (eD G (.inl f)) (.inl f),eD (eD H (.inl f)) (.inl f),eD (eD I (.inl f)) (.inl f),eD (eD J (.inl f)) (.inl f),eD (eD K (.inl f)) (.inl f),eD (eD L (.inl f)) (.inl f)⟩) (first|(go_at_call 145;refine(nz x av.o au.o Q W m T.o _ _ _ (st.drop r) S.o).mono ?_;rintro e N ⟨rfl,D⟩;have l:=eF D;have Y:=U.trans (l.mono aq);obtain⟨G,H,I,J,K,L⟩:=gM.b NV.o l ar;have aa:=eG l C s;have ab:=eG l C z;have ah:=((eO l).2 _ _ C).trans F0;have ai:=((eO l).2 _ _ C).trans F1;clear D l));have an:Hl (fo cols zs x (st.drop r)=(0,(fJ x (st.drop r)).1)):=Hm (by rw[fo,if_neg Q,if_neg W,if_neg (λh=>absurd h.2 (by simp at aF;omega)),if_neg (by rw[ao];simp)]);have HI:Hl (jP (fJ x (st.drop r)).1.kind):=Hm (tQ aA t.o.stk.ok);obtain⟨p,F⟩: ∃p,p=(N.setCell ⟨a.heap.size,0,none⟩ (.int .i64 (fJ x (st.drop r)).1.kind)).setCell ⟨a.heap.size,1,none⟩ (.bool (fJ x (st.drop r)).1.null):=⟨_,rfl⟩;have ag:Below a.heap.size a p:=by rw[F];exact(Y.setCell II _).setCell II _
         obtain⟨S0,S1⟩:=gH aa ab;have al:p.cell? ⟨a.heap.size,0,none⟩=some (.int .i64 (fJ x (st.drop r)).1.kind):=by rw[F];exact(World.cell?_setCell_other (N.setCell ⟨a.heap.size,0,none⟩ (.int .i64 (fJ x (st.drop r)).1.kind)) ⟨a.heap.size,1,none⟩ ⟨a.heap.size,0,none⟩ _ (by intro e;injection e with _ e _;omega)).trans (S0 _)
         have am:p.cell? ⟨a.heap.size,1,none⟩=some (.bool (fJ x (st.drop r)).1.null):=by rw[F];exact S1 _ _
         rw[<-F];clear S0 S1 s z aa ab F0 F1 ah ai R Z h2 h3 h4 h5 G H I J K L F Y U NV S;have s:=al;have z:=am;clear al am;have M:Hl (fT cols zs [] es=fT cols zs (st.take r++[(fJ x (st.drop r)).1]) (es.drop (k+1))):=Hm (by rw[HQ.o.1,HX.o,jM T.o t.o.len (k:=(fJ x (st.drop r)).1) (an.o)]);have X:=Hm (u.o.keep ag);have O:Hl (r<=st.length):=Hm (by rw[t.o.len];omega);have aI:w.heap.size<=p.heap.size:=X.o.b.size;have P:a.heap.size<p.heap.size:=lt_of_cell s;have ad:Hl ((Value.slice B r r).ownBlock≠some a.heap.size):=Hm (λe=>by have hq:=u.o.stk.take O.o;have hl:(st.take r).length=r:=List.length_take_of_le O.o;have:=hq.blk a.heap.size (hl.symm▸e);omega);have r0:(0:Int)<=(r:Int):=by omega
         have r1:(r:Int)<=(r:Int):=by have Z:=t.o.stk.cap.1;have h2:=t.o.len;omega
         clear ag;go_wp2;go_region_held3 (λV=>V.cell? ⟨a.heap.size,0,none⟩=some (.int .i64 (fJ x (st.drop r)).1.kind)/\V.cell? ⟨a.heap.size,1,none⟩=some (.bool (fJ x (st.drop r)).1.null)) (first|exact⟨s,z⟩|exact⟨eG ((IJ).drew.alloc IK _) P s,eG ((IJ).drew.alloc IK _) P z⟩|exact⟨(World.cell?_of_block (af _ (by simp;omega) ad.o)).trans (eG ((IJ).drew.alloc IK _) P s),(World.cell?_of_block (af _ (by simp;omega) ad.o)).trans (eG ((IJ).drew.alloc IK _) P z)⟩) (first|(refine jO (α:=Kd) _ rfl (.tmp 92) (.tmp 94) 163 rfl w.heap.size 165 i0 _ 16 Tryz.underlying163 hi aC aD aE rfl (by decide) B r r st (X.o.stk.keep ((IJ).drew.alloc IK _)) O.o rfl (fJ x (st.drop r)).1 HI.o p.heap.size rfl (gU _ _ _ _ rfl) Ho (by simp;omega) ?_;intro A' c' N ap D af;have HP:Hl (KSt 165 w N (st.take r++[(fJ x (st.drop r)).1]) (r+1) A' c'):=Hm ⟨ap,(by rw[List.length_append,List.length_take,Nat.min_eq_left O.o];rfl),(X.o.b.drew.alloc (by simp;omega) _).trans D⟩));go_wp2;go_roundw
         case rel=>exact⟨k+1,r+1,_,aB,A',c',Ho,Ho,by go_num,rfl,⟨M.o,ax.o,ay.o⟩,HP.o⟩
         case measure=>simp[intOf];omega
        ·have S:Hl (In E.drew (some ⟨g,r*2,none⟩) m (cb-r) (st.drop r)):=Hm ((aj.b U).b (IJ).drew);clear aj;go_wp2;go_region_held3 (λV=>V.cell? ⟨wr.heap.size,0,none⟩=some (.int .i64 x.op)/\V.cell? ⟨wr.heap.size,1,none⟩=some (.int .i64 x.value.kind)/\V.cell? ⟨wr.heap.size,2,none⟩=some (.int .i64 x.value.num)/\V.cell? ⟨wr.heap.size,3,none⟩=some (.string x.value.str)/\V.cell? ⟨wr.heap.size,4,none⟩=some (.string x.name)/\V.cell? ⟨wr.heap.size,5,none⟩=some (.int .i64 x.arity)) (first|exact⟨R,Z,h2,h3,h4,h5⟩|exact⟨G,H,I,J,K,L⟩|exact⟨eD (eD G (.inl f)) (.inl f),eD (eD H (.inl f)) (.inl f),eD (eD I (.inl f)) (.inl f),eD (eD J (.inl f)) (.inl f),eD (eD K (.inl f)) (.inl f),eD (eD L (.inl f)) (.inl f)⟩) (first|(go_at_call 145;refine(nz x av.o au.o Q W m T.o _ _ _ (st.drop r) S.o).mono ?_;rintro e N ⟨rfl,D⟩;have l:=eF D;have Y:=U.trans (l.mono aq);obtain⟨G,H,I,J,K,L⟩:=gM.b NV.o l ar;have aa:=eG l C s;have ab:=eG l C z;have ah:=((eO l).2 _ _ C).trans F0;have ai:=((eO l).2 _ _ C).trans F1;clear D l));have an:Hl (fo cols zs x (st.drop r)=(0,(fJ x (st.drop r)).1)):=Hm (by rw[fo,if_neg Q,if_neg W,if_neg (λh=>absurd h.2 (by simp at aF;omega)),if_neg (by rw[ao];simp)]);have HI:Hl (jP (fJ x (st.drop r)).1.kind):=Hm (tQ aA t.o.stk.ok);obtain⟨p,F⟩: ∃p,p=(N.setCell ⟨a.heap.size,0,none⟩ (.int .i64 (fJ x (st.drop r)).1.kind)).setCell ⟨a.heap.size,1,none⟩ (.bool (fJ x (st.drop r)).1.null):=⟨_,rfl⟩;have ag:Below a.heap.size a p:=by rw[F];exact(Y.setCell II _).setCell II _
         obtain⟨S0,S1⟩:=gH aa ab;have al:p.cell? ⟨a.heap.size,0,none⟩=some (.int .i64 (fJ x (st.drop r)).1.kind):=by rw[F];exact(World.cell?_setCell_other (N.setCell ⟨a.heap.size,0,none⟩ (.int .i64 (fJ x (st.drop r)).1.kind)) ⟨a.heap.size,1,none⟩ ⟨a.heap.size,0,none⟩ _ (by intro e;injection e with _ e _;omega)).trans (S0 _)
         have am:p.cell? ⟨a.heap.size,1,none⟩=some (.bool (fJ x (st.drop r)).1.null):=by rw[F];exact S1 _ _
         rw[<-F];clear S0 S1 s z aa ab F0 F1 ah ai R Z h2 h3 h4 h5 G H I J K L F Y U NV S;have s:=al;have z:=am;clear al am;have M:Hl (fT cols zs [] es=fT cols zs (st.take r++[(fJ x (st.drop r)).1]) (es.drop (k+1))):=Hm (by rw[HQ.o.1,HX.o,jM T.o t.o.len (k:=(fJ x (st.drop r)).1) (an.o)]);have X:=Hm (u.o.keep ag);have O:Hl (r<=st.length):=Hm (by rw[t.o.len];omega);have aI:w.heap.size<=p.heap.size:=X.o.b.size;have P:a.heap.size<p.heap.size:=lt_of_cell s;have ad:Hl ((Value.slice (some ⟨g,0,none⟩) r cb).ownBlock≠some a.heap.size):=Hm (λe=>by have hq:=u.o.stk.take O.o;have hl:(st.take r).length=r:=List.length_take_of_le O.o;have:=hq.blk a.heap.size (hl.symm▸e);omega);have r0:(0:Int)<=(r:Int):=by omega
         have r1:(r:Int)<=(cb:Int):=by have Z:=t.o.stk.cap.1;have h2:=t.o.len;omega
         clear ag;go_wp2;go_region_held3 (λV=>V.cell? ⟨a.heap.size,0,none⟩=some (.int .i64 (fJ x (st.drop r)).1.kind)/\V.cell? ⟨a.heap.size,1,none⟩=some (.bool (fJ x (st.drop r)).1.null)) (first|exact⟨s,z⟩|exact⟨eG ((IJ).drew.alloc IK _) P s,eG ((IJ).drew.alloc IK _) P z⟩|exact⟨(World.cell?_of_block (af _ (by simp;omega) ad.o)).trans (eG ((IJ).drew.alloc IK _) P s),(World.cell?_of_block (af _ (by simp;omega) ad.o)).trans (eG ((IJ).drew.alloc IK _) P z)⟩) (first|(refine jO (α:=Kd) _ rfl (.tmp 92) (.tmp 94) 163 rfl w.heap.size 165 i0 _ 16 Tryz.underlying163 hi aC aD aE rfl (by decide) (some ⟨g,0,none⟩) cb r st (X.o.stk.keep ((IJ).drew.alloc IK _)) O.o rfl (fJ x (st.drop r)).1 HI.o p.heap.size rfl (gU _ _ _ _ rfl) Ho (by simp;omega) ?_;intro A' c' N ap D af;have HP:Hl (KSt 165 w N (st.take r++[(fJ x (st.drop r)).1]) (r+1) A' c'):=Hm ⟨ap,(by rw[List.length_append,List.length_take,Nat.min_eq_left O.o];rfl),(X.o.b.drew.alloc (by simp;omega) _).trans D⟩));go_wp2;go_roundw
         case rel=>exact⟨k+1,r+1,_,aB,A',c',Ho,Ho,by go_num,rfl,⟨M.o,ax.o,ay.o⟩,HP.o⟩
         case measure=>simp[intOf];omega
     ·have q3:(x.op==20)=false:=by simpa using o3
      obtain⟨E,ac⟩: ∃E,E=a.alloc (.cells #[.int .i64 0,.bool false] 165):=⟨_,rfl⟩;have U:Below a.heap.size a E:=by rw[ac];exact eB
      have s:E.cell? ⟨a.heap.size,0,none⟩=some (.int .i64 0):=by rw[ac];simp[go_sem]
      have z:E.cell? ⟨a.heap.size,1,none⟩=some (.bool false):=by rw[ac];simp[go_sem]
      have F0:E.frozen? ⟨a.heap.size,0,none⟩=false:=by rw[ac];simp[go_sem]
      have F1:E.frozen? ⟨a.heap.size,1,none⟩=false:=by rw[ac];simp[go_sem]
      go_upto_region 11 with (fail);rw[<-ac];clear ac;have aq:a.heap.size<=E.heap.size:=U.size;have ar:wr.heap.size<E.heap.size:=by omega
      have C:a.heap.size<E.heap.size:=lt_of_cell s;have f:¬wr.heap.size=a.heap.size:=by omega
      have NV:Hl (gM E wr.heap.size x):=Hm (gM.b ⟨g0,g1,g2,g3,g4,g5⟩ U z2);obtain⟨R,Z,h2,h3,h4,h5⟩:=NV.o;have r0:(0:Int)<=(r:Int):=by omega
      have r2:(r:Int)<=(r:Int)+(m:Int):=by omega
      clear g0 g1 g2 g3 g4 g5;cases ao:(fJ x (st.drop r)).2
      ·rcases rW u.o.stk u.o.len with ⟨rfl,ak⟩|⟨aJ,g,rfl,aj⟩
       ·have S:Hl (In E.drew B m 0 (st.drop r)):=Hm (by rw[List.drop_eq_nil_of_le (by rw[t.o.len];omega),ak];exact Sl.empty Ho (λ_=>rfl));clear ak;go_wp2;go_region_held3 (λV=>V.cell? ⟨wr.heap.size,0,none⟩=some (.int .i64 x.op)/\V.cell? ⟨wr.heap.size,1,none⟩=some (.int .i64 x.value.kind)/\V.cell? ⟨wr.heap.size,2,none⟩=some (.int .i64 x.value.num)/\V.cell? ⟨wr.heap.size,3,none⟩=some (.string x.value.str)/\V.cell? ⟨wr.heap.size,4,none⟩=some (.string x.name)/\V.cell? ⟨wr.heap.size,5,none⟩=some (.int .i64 x.arity)) (first|exact⟨R,Z,h2,h3,h4,h5⟩|exact⟨G,H,I,J,K,L⟩|exact⟨eD (eD G (.inl f)) (.inl f),eD (eD H (.inl f)) (.inl f),eD (eD I (.inl f)) (.inl f),eD (eD J (.inl f)) (.inl f),eD (eD K (.inl f)) (.inl f),eD (eD L (.inl f)) (.inl f)⟩) (first|(go_at_call 145;refine(nz x av.o au.o Q W m T.o _ _ _ (st.drop r) S.o).mono ?_;rintro e N ⟨rfl,D⟩;have l:=eF D;have Y:=U.trans (l.mono aq);obtain⟨G,H,I,J,K,L⟩:=gM.b NV.o l ar;have aa:=eG l C s;have ab:=eG l C z;have ah:=((eO l).2 _ _ C).trans F0;have ai:=((eO l).2 _ _ C).trans F1;clear D l));have M:Hl (ig es cols zs=(7,default)):=Hm (by rw[HT.o,HQ.o.1,HX.o,jK T.o t.o.len (e:=7) (by rw[fo,if_neg Q,if_neg W,if_neg (λh=>o3 h.1),if_pos ao]) Ho]);go_wp2
        go_ret3
        exact⟨by rw[M.o];rfl,rG (u.o.b.trans (Y.mono u.o.b.size)) u.o.b.size _ _⟩
       ·have S:Hl (In E.drew (some ⟨g,r*2,none⟩) m (cb-r) (st.drop r)):=Hm ((aj.b U).b (IJ).drew);clear aj;go_wp2;go_region_held3 (λV=>V.cell? ⟨wr.heap.size,0,none⟩=some (.int .i64 x.op)/\V.cell? ⟨wr.heap.size,1,none⟩=some (.int .i64 x.value.kind)/\V.cell? ⟨wr.heap.size,2,none⟩=some (.int .i64 x.value.num)/\V.cell? ⟨wr.heap.size,3,none⟩=some (.string x.value.str)/\V.cell? ⟨wr.heap.size,4,none⟩=some (.string x.name)/\V.cell? ⟨wr.heap.size,5,none⟩=some (.int .i64 x.arity)) (first|exact⟨R,Z,h2,h3,h4,h5⟩|exact⟨G,H,I,J,K,L⟩|exact⟨eD (eD G (.inl f)) (.inl f),eD (eD H (.inl f)) (.inl f),eD (eD I (.inl f)) (.inl f),eD (eD J (.inl f)) (.inl f),eD (eD K (.inl f)) (.inl f),eD (eD L (.inl f)) (.inl f)⟩) (first|(go_at_call 145;refine(nz x av.o au.o Q W m T.o _ _ _ (st.drop r) S.o).mono ?_;rintro e N ⟨rfl,D⟩;have l:=eF D;have Y:=U.trans (l.mono aq);obtain⟨G,H,I,J,K,L⟩:=gM.b NV.o l ar;have aa:=eG l C s;have ab:=eG l C z;have ah:=((eO l).2 _ _ C).trans F0;have ai:=((eO l).2 _ _ C).trans F1;clear D l));have M:Hl (ig es cols zs=(7,default)):=Hm (by rw[HT.o,HQ.o.1,HX.o,jK T.o t.o.len (e:=7) (by rw[fo,if_neg Q,if_neg W,if_neg (λh=>o3 h.1),if_pos ao]) Ho]);go_wp2
        go_ret3
        exact⟨by rw[M.o];rfl,rG (u.o.b.trans (Y.mono u.o.b.size)) u.o.b.size _ _⟩
      ·rcases rW u.o.stk u.o.len with ⟨rfl,ak⟩|⟨aJ,g,rfl,aj⟩
       ·have S:Hl (In E.drew B m 0 (st.drop r)):=Hm (by rw[List.drop_eq_nil_of_le (by rw[t.o.len];omega),ak];exact Sl.empty Ho (λ_=>rfl));clear ak;go_wp2;go_region_held3 (λV=>V.cell? ⟨wr.heap.size,0,none⟩=some (.int .i64 x.op)/\V.cell? ⟨wr.heap.size,1,none⟩=some (.int .i64 x.value.kind)/\V.cell? ⟨wr.heap.size,2,none⟩=some (.int .i64 x.value.num)/\V.cell? ⟨wr.heap.size,3,none⟩=some (.string x.value.str)/\V.cell? ⟨wr.heap.size,4,none⟩=some (.string x.name)/\V.cell? ⟨wr.heap.size,5,none⟩=some (.int .i64 x.arity)) (first|exact⟨R,Z,h2,h3,h4,h5⟩|exact⟨G,H,I,J,K,L⟩|exact⟨eD (eD G (.inl f)) (.inl f),eD (eD H (.inl f)) (.inl f),eD (eD I (.inl f)) (.inl f),eD (eD J (.inl f)) (.inl f),eD (eD K (.inl f)) (.inl f),eD (eD L (.inl f)) (.inl f)⟩) (first|(go_at_call 145;refine(nz x av.o au.o Q W m T.o _ _ _ (st.drop r) S.o).mono ?_;rintro e N ⟨rfl,D⟩;have l:=eF D;have Y:=U.trans (l.mono aq);obtain⟨G,H,I,J,K,L⟩:=gM.b NV.o l ar;have aa:=eG l C s;have ab:=eG l C z;have ah:=((eO l).2 _ _ C).trans F0;have ai:=((eO l).2 _ _ C).trans F1;clear D l));have an:Hl (fo cols zs x (st.drop r)=(0,(fJ x (st.drop r)).1)):=Hm (by rw[fo,if_neg Q,if_neg W,if_neg (λh=>o3 h.1),if_neg (by rw[ao];simp)]);have HI:Hl (jP (fJ x (st.drop r)).1.kind):=Hm (tQ aA t.o.stk.ok);obtain⟨p,F⟩: ∃p,p=(N.setCell ⟨a.heap.size,0,none⟩ (.int .i64 (fJ x (st.drop r)).1.kind)).setCell ⟨a.heap.size,1,none⟩ (.bool (fJ x (st.drop r)).1.null):=⟨_,rfl⟩;have ag:Below a.heap.size a p:=by rw[F];exact(Y.setCell II _).setCell II _
        obtain⟨S0,S1⟩:=gH aa ab;have al:p.cell? ⟨a.heap.size,0,none⟩=some (.int .i64 (fJ x (st.drop r)).1.kind):=by rw[F];exact(World.cell?_setCell_other (N.setCell ⟨a.heap.size,0,none⟩ (.int .i64 (fJ x (st.drop r)).1.kind)) ⟨a.heap.size,1,none⟩ ⟨a.heap.size,0,none⟩ _ (by intro e;injection e with _ e _;omega)).trans (S0 _)
        have am:p.cell? ⟨a.heap.size,1,none⟩=some (.bool (fJ x (st.drop r)).1.null):=by rw[F];exact S1 _ _
        rw[<-F];clear S0 S1 s z aa ab F0 F1 ah ai R Z h2 h3 h4 h5 G H I J K L F Y U NV S;have s:=al;have z:=am;clear al am;have M:Hl (fT cols zs [] es=fT cols zs (st.take r++[(fJ x (st.drop r)).1]) (es.drop (k+1))):=Hm (by rw[HQ.o.1,HX.o,jM T.o t.o.len (k:=(fJ x (st.drop r)).1) (an.o)]);have X:=Hm (u.o.keep ag);have O:Hl (r<=st.length):=Hm (by rw[t.o.len];omega);have aI:w.heap.size<=p.heap.size:=X.o.b.size;have P:a.heap.size<p.heap.size:=lt_of_cell s;have ad:Hl ((Value.slice B r r).ownBlock≠some a.heap.size):=Hm (λe=>by have hq:=u.o.stk.take O.o;have hl:(st.take r).length=r:=List.length_take_of_le O.o;have:=hq.blk a.heap.size (hl.symm▸e);omega);have r0:(0:Int)<=(r:Int):=by omega
        have r1:(r:Int)<=(r:Int):=by have Z:=t.o.stk.cap.1;have h2:=t.o.len;omega
        clear ag;go_wp2;go_region_held3 (λV=>V.cell? ⟨a.heap.size,0,none⟩=some (.int .i64 (fJ x (st.drop r)).1.kind)/\V.cell? ⟨a.heap.size,1,none⟩=some (.bool (fJ x (st.drop r)).1.null)) (first|exact⟨s,z⟩|exact⟨eG ((IJ).drew.alloc IK _) P s,eG ((IJ).drew.alloc IK _) P z⟩|exact⟨(World.cell?_of_block (af _ (by simp;omega) ad.o)).trans (eG ((IJ).drew.alloc IK _) P s),(World.cell?_of_block (af _ (by simp;omega) ad.o)).trans (eG ((IJ).drew.alloc IK _) P z)⟩) (first|(refine jO (α:=Kd) _ rfl (.tmp 92) (.tmp 94) 163 rfl w.heap.size 165 i0 _ 16 Tryz.underlying163 hi aC aD aE rfl (by decide) B r r st (X.o.stk.keep ((IJ).drew.alloc IK _)) O.o rfl (fJ x (st.drop r)).1 HI.o p.heap.size rfl (gU _ _ _ _ rfl) Ho (by simp;omega) ?_;intro A' c' N ap D af;have HP:Hl (KSt 165 w N (st.take r++[(fJ x (st.drop r)).1]) (r+1) A' c'):=Hm ⟨ap,(by rw[List.length_append,List.length_take,Nat.min_eq_left O.o];rfl),(X.o.b.drew.alloc (by simp;omega) _).trans D⟩));go_wp2;go_roundw
        case rel=>exact⟨k+1,r+1,_,aB,A',c',Ho,Ho,by go_num,rfl,⟨M.o,ax.o,ay.o⟩,HP.o⟩
        case measure=>simp[intOf];omega
       ·have S:Hl (In E.drew (some ⟨g,r*2,none⟩) m (cb-r) (st.drop r)):=Hm ((aj.b U).b (IJ).drew);clear aj;go_wp2;go_region_held3 (λV=>V.cell? ⟨wr.heap.size,0,none⟩=some (.int .i64 x.op)/\V.cell? ⟨wr.heap.size,1,none⟩=some (.int .i64 x.value.kind)/\V.cell? ⟨wr.heap.size,2,none⟩=some (.int .i64 x.value.num)/\V.cell? ⟨wr.heap.size,3,none⟩=some (.string x.value.str)/\V.cell? ⟨wr.heap.size,4,none⟩=some (.string x.name)/\V.cell? ⟨wr.heap.size,5,none⟩=some (.int .i64 x.arity)) (first|exact⟨R,Z,h2,h3,h4,h5⟩|exact⟨G,H,I,J,K,L⟩|exact⟨eD (eD G (.inl f)) (.inl f),eD (eD H (.inl f)) (.inl f),eD (eD I (.inl f)) (.inl f),eD (eD J (.inl f)) (.inl f),eD (eD K (.inl f)) (.inl f),eD (eD L (.inl f)) (.inl f)⟩) (first|(go_at_call 145;refine(nz x av.o au.o Q W m T.o _ _ _ (st.drop r) S.o).mono ?_;rintro e N ⟨rfl,D⟩;have l:=eF D;have Y:=U.trans (l.mono aq);obtain⟨G,H,I,J,K,L⟩:=gM.b NV.o l ar;have aa:=eG l C s;have ab:=eG l C z;have ah:=((eO l).2 _ _ C).trans F0;have ai:=((eO l).2 _ _ C).trans F1;clear D l));have an:Hl (fo cols zs x (st.drop r)=(0,(fJ x (st.drop r)).1)):=Hm (by rw[fo,if_neg Q,if_neg W,if_neg (λh=>o3 h.1),if_neg (by rw[ao];simp)]);have HI:Hl (jP (fJ x (st.drop r)).1.kind):=Hm (tQ aA t.o.stk.ok);obtain⟨p,F⟩: ∃p,p=(N.setCell ⟨a.heap.size,0,none⟩ (.int .i64 (fJ x (st.drop r)).1.kind)).setCell ⟨a.heap.size,1,none⟩ (.bool (fJ x (st.drop r)).1.null):=⟨_,rfl⟩;have ag:Below a.heap.size a p:=by rw[F];exact(Y.setCell II _).setCell II _
        obtain⟨S0,S1⟩:=gH aa ab;have al:p.cell? ⟨a.heap.size,0,none⟩=some (.int .i64 (fJ x (st.drop r)).1.kind):=by rw[F];exact(World.cell?_setCell_other (N.setCell ⟨a.heap.size,0,none⟩ (.int .i64 (fJ x (st.drop r)).1.kind)) ⟨a.heap.size,1,none⟩ ⟨a.heap.size,0,none⟩ _ (by intro e;injection e with _ e _;omega)).trans (S0 _)
        have am:p.cell? ⟨a.heap.size,1,none⟩=some (.bool (fJ x (st.drop r)).1.null):=by rw[F];exact S1 _ _
        rw[<-F];clear S0 S1 s z aa ab F0 F1 ah ai R Z h2 h3 h4 h5 G H I J K L F Y U NV S;have s:=al;have z:=am;clear al am;have M:Hl (fT cols zs [] es=fT cols zs (st.take r++[(fJ x (st.drop r)).1]) (es.drop (k+1))):=Hm (by rw[HQ.o.1,HX.o,jM T.o t.o.len (k:=(fJ x (st.drop r)).1) (an.o)]);have X:=Hm (u.o.keep ag);have O:Hl (r<=st.length):=Hm (by rw[t.o.len];omega);have aI:w.heap.size<=p.heap.size:=X.o.b.size;have P:a.heap.size<p.heap.size:=lt_of_cell s;have ad:Hl ((Value.slice (some ⟨g,0,none⟩) r cb).ownBlock≠some a.heap.size):=Hm (λe=>by have hq:=u.o.stk.take O.o;have hl:(st.take r).length=r:=List.length_take_of_le O.o;have:=hq.blk a.heap.size (hl.symm▸e);omega);have r0:(0:Int)<=(r:Int):=by omega
        have r1:(r:Int)<=(cb:Int):=by have Z:=t.o.stk.cap.1;have h2:=t.o.len;omega
        clear ag;go_wp2;go_region_held3 (λV=>V.cell? ⟨a.heap.size,0,none⟩=some (.int .i64 (fJ x (st.drop r)).1.kind)/\V.cell? ⟨a.heap.size,1,none⟩=some (.bool (fJ x (st.drop r)).1.null)) (first|exact⟨s,z⟩|exact⟨eG ((IJ).drew.alloc IK _) P s,eG ((IJ).drew.alloc IK _) P z⟩|exact⟨(World.cell?_of_block (af _ (by simp;omega) ad.o)).trans (eG ((IJ).drew.alloc IK _) P s),(World.cell?_of_block (af _ (by simp;omega) ad.o)).trans (eG ((IJ).drew.alloc IK _) P z)⟩) (first|(refine jO (α:=Kd) _ rfl (.tmp 92) (.tmp 94) 163 rfl w.heap.size 165 i0 _ 16 Tryz.underlying163 hi aC aD aE rfl (by decide) (some ⟨g,0,none⟩) cb r st (X.o.stk.keep ((IJ).drew.alloc IK _)) O.o rfl (fJ x (st.drop r)).1 HI.o p.heap.size rfl (gU _ _ _ _ rfl) Ho (by simp;omega) ?_;intro A' c' N ap D af;have HP:Hl (KSt 165 w N (st.take r++[(fJ x (st.drop r)).1]) (r+1) A' c'):=Hm ⟨ap,(by rw[List.length_append,List.length_take,Nat.min_eq_left O.o];rfl),(X.o.b.drew.alloc (by simp;omega) _).trans D⟩));go_wp2;go_roundw
        case rel=>exact⟨k+1,r+1,_,aB,A',c',Ho,Ho,by go_num,rfl,⟨M.o,ax.o,ay.o⟩,HP.o⟩
        case measure=>simp[intOf];omega
  ·have HX:=Hm (fG hx.len (show n<=k by omega));have aX:d=1:=pE (by rw[<-HX.o];exact HQ.o.2.2) HQ.o.2.1;subst aX;have S:Hl (In wr B 1 cb st):=Hm (by have:=t.o.stk.inn;rw[t.o.len]at this;exact this);obtain⟨b3,bb,y,rfl,a7,HY,y0,y1,y2⟩:=S.o.kd (show 0<1 by omega);simp only[Nat.zero_mul,Nat.add_zero]at y0 y1;have HR:Hl (ig es cols zs=(0,y)):=Hm (by
    rw[HT.o,HQ.o.1,HX.o,fT];have:=HY.o;rw[List.drop_zero]at this;rw[this];rfl)
   have G:(0:Int)<(1:Int):=by omega
   go_wp2;go_quiet (fail);go_wp2
   go_ret3
   exact⟨by rw[HR.o];rfl,below_drewN t.o.b _⟩
end Go.Proofs.YthnelebakkggjaaGreatDoor
