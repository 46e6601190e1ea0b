/-
  warehouseref9.Type: it returns typeS. (Printed by gen_typeR.py.)
-/
import Derived.Deep.RegionLawGrows
import Derived.Test.YtggejcekmehocaaGreatDoorNode
import Derived.Test.YtggejcekmehocaaGreatDoorGal
namespace Go.Proofs.YtggejcekmehocaaGreatDoor
set_option maxHeartbeats 40000000
set_option maxRecDepth 100000
open Go.RowKit
set_option linter.unusedSimpArgs false
set_option linter.unusedVariables false
theorem Mw:(Tryz.prog.info? 173).map (λi=>(i.zero,i.size,i.bytes))=some (some (.agg #[.int .i64 0,.bool false]),2,16):=by kernel_rfl
theorem lI (x:Node)(hsh:shaped x=true)(m:Nat)(hm:arity x.op x.arity=(m:Int))(w:World)(A:Option Addr)(c:Nat)(xs:List Kd)(hx:In w A m c xs)(A1:Option Addr)(n1 c1:Nat)(cols:List Col)(hc:In w A1 n1 c1 cols)(A2:Option Addr)(n2 c2:Nat)(zs:List Zone)(hz:In w A2 n2 c2 zs):
  Calls Tryz.prog 157 #[.agg x.cells.toArray,.slice A m c,.slice A1 n1 c1,.slice A2 n2 c2] w λe w'=>e=.returned (.tuple #[.agg (aF cols zs x xs).2.cells.toArray,.int .i64 (aF cols zs x xs).1])/\Below w.heap.size w w':=by
 have hop:=λh1 h21=>mq hsh h1 h21
 obtain ⟨op,⟨kd,nu,st⟩,nm,ar⟩:=x
 simp only at hop hm
 clear hsh
 by_cases h1:op=1
 ·subst h1
  exact Ry kd nu ar st nm w A1 n1 c1 cols hc A2 n2 c2 zs hz A m c xs
 by_cases h21:op=21
 ·subst h21
  exact Pk kd nu ar st nm w A1 n1 c1 cols hc A2 n2 c2 zs hz A m c xs
 rcases hop h1 h21 with rfl|⟨hl,hh⟩
 ·have e:m=0:=by simp[arity]at hm;omega
  subst e
  obtain rfl:=hx.len0
  exact Rx kd nu ar st nm w A1 n1 c1 cols hc A2 n2 c2 zs hz A 0 c
 by_cases h20:op=20
 ·subst h20
  by_cases hz0:fF zs nm<0
  ·exact MH kd nu ar st nm w A1 n1 c1 cols hc A2 n2 c2 zs hz A m c xs hz0
  ·have e:m=1:=by simp[arity]at hm;omega
   subst e
   obtain ⟨⟨xk,xn⟩,b,off,rfl,rfl⟩:=hx.len1
   cases hok:(ek 20 ⟨xk,xn⟩).2
   ·exact Il kd nu ar st nm w A1 n1 c1 cols hc A2 n2 c2 zs hz b off c xk xn hx (by omega)
   ·exact Il kd nu ar st nm w A1 n1 c1 cols hc A2 n2 c2 zs hz b off c xk xn hx (by omega)
 by_cases Ig:op=17
 ·subst Ig
  have e:m=3:=by simp[arity]at hm;omega
  subst e
  obtain ⟨⟨xk,xn⟩,⟨yk,yn⟩,⟨zk,zn⟩,b,off,rfl,rfl⟩:=hx.len3
  cases yn
  ·cases hco:(common ⟨yk,false⟩ ⟨zk,zn⟩).2
   ·exact Gv kd nu ar st nm w A1 n1 c1 cols hc A2 n2 c2 zs hz b off c xk xn yk zk zn hx hco
   ·cases hf:fits ⟨xk,xn⟩ 1
    ·exact zA kd nu ar st nm w A1 n1 c1 cols hc A2 n2 c2 zs hz b off c xk xn yk zk zn hx hco
    ·exact zA kd nu ar st nm w A1 n1 c1 cols hc A2 n2 c2 zs hz b off c xk xn yk zk zn hx hco
  ·cases hco:(common ⟨yk,true⟩ ⟨zk,zn⟩).2
   ·exact Gw kd nu ar st nm w A1 n1 c1 cols hc A2 n2 c2 zs hz b off c xk xn yk zk zn hx hco
   ·cases hf:fits ⟨xk,xn⟩ 1
    ·exact EK kd nu ar st nm w A1 n1 c1 cols hc A2 n2 c2 zs hz b off c xk xn yk zk zn hx hco hf
    ·exact EL kd nu ar st nm w A1 n1 c1 cols hc A2 n2 c2 zs hz b off c xk xn yk zk zn hx hco hf
 by_cases hu:op=2\/op=3\/op=16\/op=19
 ·have e:m=1:=by rw[arity,if_neg (by omega),if_pos (by omega)]at hm;omega
  subst e
  obtain ⟨⟨xk,xn⟩,b,off,rfl,rfl⟩:=hx.len1
  cases hok:(ek op ⟨xk,xn⟩).2
  ·exact Im op kd nu ar st nm w A1 n1 c1 cols hc A2 n2 c2 zs hz b off c xk xn hx hu
  ·exact Im op kd nu ar st nm w A1 n1 c1 cols hc A2 n2 c2 zs hz b off c xk xn hx hu
 ·have e:m=2:=by rw[arity,if_neg (by omega),if_neg (by omega),if_neg Ig,if_neg h21,if_pos (by omega)]at hm;omega
  subst e
  obtain ⟨⟨xk,xn⟩,⟨yk,yn⟩,b,off,rfl,rfl⟩:=hx.len2
  cases hok:(aO op ⟨xk,xn⟩ ⟨yk,yn⟩).2
  ·exact EM op kd nu ar st nm w A1 n1 c1 cols hc A2 n2 c2 zs hz b off c xk xn yk yn hx (by omega)
  ·exact EM op kd nu ar st nm w A1 n1 c1 cols hc A2 n2 c2 zs hz b off c xk xn yk yn hx (by omega)
theorem jv {α:Type}[Flat α]{P:Program}(w:World){ops:Array Oper}{o:Oper}{a:Act}{K:Act->World->Prop}{Q:Exit->Act->World->Prop}{E:Prop}(hgd:o.guard=none)(s x:Operand)(t:TypeId)(ho:o.op=.call {callee:=.builtin .append,args:= #[s,x],argTypes:= #[t,t]})(B:Nat)(e:TypeId)(i:TypeInfo)(z:Value)(bytes:Nat)(ht:P.underlying t=some (.slice e))(hi:P.info? e=some i)(hz:i.zero=some z)(hsize:i.size=Rep.size α)(hby:i.bytes=bytes)(hzs:z.cells.size=Rep.size α)(Nn:bytes<=256)(A:Option Addr)(c k:Nat)(xs:List α)(hown:Stk B w e A c xs)(hk:k<=xs.length)(hs:a.eval s=.slice A k k)(y:α)(hy:Flat.ok y)(b:Nat)(hx:a.eval x=.slice (some ⟨b,0,none⟩) 1 1)(hc:Ht w b y)(hm:k<=1048576)(hB:B<=w.heap.size)(h: ∀A' c' w',Stk B w' e A' c' (xs.take k++[y])->Below w.heap.size w w'->K (a.put o.dst (.slice A' (k+1) c')) w'):
  if Region.wanted o (yielded ops a.tmps)=true then Oper.wp P o a w K Q else E:=by
 have hp:=hown.take hk
 have hl:(xs.take k).length=k:=by rw[List.length_take];omega
 refine step_append_grows (P:=P) (w:=w) hgd s x t ho e i z (Rep.size α) bytes ht hi hz hsize hby hzs Flat.pos A k k ((xs.take k).flatMap Flat.cs) hs (λhA=>by have:=hp.none_ hA;omega) (by rw[lG,hl]) ?_
  ⟨b,0,none⟩ 1 1 (Flat.cs y) hx (by rw[Flat.cs_len];omega) (λj u hu=>by rw[pq,Nat.zero_add];exact hc j u hu) (Flat.cs_one y) (by omega) (by simp only[maxLen];omega) ?_ ?_
 ·intro ad hA j u hu
  rcases hp.own.2 with ⟨h2,_⟩|⟨g,cap,cur,hv,hB,hh,h4,h5,h6,h7⟩
  ·injection h2 with h2;subst h2;cases hA
  ·injection hv with hv;subst hv
   injection hA with hA
   subst hA
   rw[pq,Nat.zero_add,cell_of_row w g j cur e (0,0) hh,<-Array.getElem?_toList]
   rw[<-h7,List.getElem?_take]at hu
   split at hu
   ·exact hu
   ·cases hu
 ·have:(k+1)*bytes<=1048577*256:=Nat.mul_le_mul (by omega) Nn
  omega
 ·intro v' w1 h1 h2
  have hb:Below w.heap.size w w1:=(Below.refl w.heap.size w).grown h2 (Nat.le_refl _) (λg hg=>by cases hg)
  have h1':=Dc h1 hB
  rcases h1'.2 with ⟨_,h5⟩|⟨g,cap,cur,hv,hg,r⟩
  ·omega
  ·subst hv
   refine h _ _ _ ⟨?_,?_⟩ hb
   ·rw[List.length_append,hl,List.flatMap_append]
    have e1:[y].flatMap Flat.cs=Flat.cs y:=by simp
    rw[e1]
    exact h1'
   ·intro q hq
    rcases List.mem_append.1 hq with hq|hq
    ·exact hp.ok q hq
    ·simp at hq;subst hq;exact hy
theorem Gu {cols:List Col}{zs:List Zone}{x:Node}{l:List Kd}{r:Nat}(hx:x.ok)(hc: ∀c∈cols,ig c.kind)(hl: ∀k∈l,ig k.kind):ig (aF cols zs x (l.drop r)).2.kind:=by
 have h0:ig 0:=by unfold ig;omega
 have hd:ig (default:Kd).kind:=h0
 rw[aF]
 split
 ·split
  ·exact hd
  ·rename_i hi
   obtain ⟨i,c,e1,e2,_⟩:=FZ hi
   simp only
   rw[e1,Int.toNat_natCast,xX e2]
   exact hc c (List.mem_of_getElem? e2)
 ·(repeat' split) <;> first|exact hd|exact rG hx hl
theorem vo (w:World)(A:Option Addr)(n c:Nat)(es:List Node)(hx:In w A n c es)(A1:Option Addr)(n1 c1:Nat)(cols:List Col)(hc:In w A1 n1 c1 cols)(hci: ∀c∈cols,ig c.kind)(A2:Option Addr)(n2 c2:Nat)(zs:List Zone)(hz:In w A2 n2 c2 zs):
  Calls Tryz.prog 119 #[.slice A n c,.slice A1 n1 c1,.slice A2 n2 c2] w λe w'=>e=.returned (.tuple #[.int .i64 (cK es cols zs).2.kind,.bool (cK es cols zs).2.null,.int .i64 (cK es cols zs).1])/\Below w.heap.size w w':=by
 have h63:=hx.le
 have Yt:=hz.le
 have J6:=hide hci
 clear hci
 obtain ⟨i0,hi,hy0,hy1,hy2⟩:=info_parts Mw
 go_enter Tryz.func119,Tryz.ntmps119
 go_wp2_with fail
 refine (D9 _ _ _ _ es hx).mono ?_
 rintro e w1 ⟨rfl,hb1⟩
 by_cases h0:¬bW es=0
 ·have HN:Hid (cK es cols zs=(bW es,default)):=hide (by have hk:bT es cols zs=bW es:=(by rw[bT,if_pos h0]);rw[cK,hk,if_pos h0])
  have q:(bW es != 0)=true:=by simpa using h0
  clear h0
  go_wp2
  go_ret3
  exact ⟨by rw[HN.out];rfl,hb1⟩
 replace h0:bW es=0:=by omega
 have HE:=hide (kC h0)
 have jR:=hide h0
 have Mj:n<=256:=by have:=HE.out.1;rw[hx.len]at this;exact this
 rw[h0]
 clear h0
 go_wp2_with fail
 refine (jJ _ _ _ _ cols (hc.below hb1)).mono ?_
 rintro e w2 ⟨rfl,rfl⟩
 have hbb:=hb1
 clear hb1
 by_cases h2:¬aD cols=0
 ·have HN:Hid (cK es cols zs=(aD cols,default)):=hide (by have hk:bT es cols zs=aD cols:=(by rw[bT,if_neg (by simp[jR.out]),if_pos h2]);rw[cK,hk,if_pos h2])
  have q:(aD cols != 0)=true:=by simpa using h2
  clear h2
  go_wp2
  go_ret3
  exact ⟨by rw[HN.out];rfl,hbb⟩
 replace h2:aD cols=0:=by omega
 have HK:Hid (bT es cols zs=aj (λ_ z=>aJ z) 0 zs):=hide (by rw[bT,if_neg (by simp[jR.out]),if_neg (by simp[h2])];rfl)
 rw[h2]
 clear h2
 go_wp2
 go_loopw [11] (λi wr=> ∃k:Nat,k<=n2/\i=.int .i64 k/\aj (λ_ z=>aJ z) 0 zs=aj (λ_ z=>aJ z) k (zs.drop k)/\Below w.heap.size w wr) (λi _=>n2-(intOf i).toNat)
 case atStart=>exact ⟨0,Nat.zero_le _,rfl,rfl,hbb⟩
 case round=>
  obtain ⟨k,hk,rfl,heq,hb⟩:=hrel
  have HQ:=hide heq
  clear heq
  by_cases hlt:k<n2
  ·obtain ⟨b,off,x,rfl,hB,HX,A',n',c',e0,e1,e2,e3,e4,e5⟩:=(hz.below hb).zone hlt
   go_wp2_with fail
   refine (Fy _ A' n' c' x e3 e5).mono ?_
   rintro e w3 ⟨rfl,hb3⟩
   have hb4:=aa hb hb3
   clear hb3 e0 e1 e2
   by_cases h3:aJ x=0
   ·have HN:Hid (aj (λ_ z=>aJ z) 0 zs=aj (λ_ z=>aJ z) (k+1) (zs.drop (k+1))):=hide (by rw[HQ.out,HX.out];exact bJ h3)
    rw[h3]
    clear h3
    go_wp2
    go_roundw
    case rel=>exact ⟨k+1,by omega,by go_num,HN.out,hb4⟩
    case measure=>simp[intOf];omega
   ·have HN:Hid (cK es cols zs=(aJ x,default)):=hide (by have hk:bT es cols zs=aJ x:=(by rw[HK.out,HQ.out,HX.out];exact aT (f:=λ_ z=>aJ z) (e:=aJ x) rfl h3);rw[cK,hk,if_pos h3])
    have q:(aJ x != 0)=true:=by simpa using h3
    clear h3
    go_wp2
    go_ret3
    exact ⟨by rw[HN.out];rfl,hb4⟩
  ·have HT:Hid (cK es cols zs=aZ cols zs [] es):=hide (by have hk:bT es cols zs=0:=(by rw[HK.out,HQ.out,aP hz.len (by omega)];rfl);rw[cK,if_neg (by simp[hk])])
   go_wp2
   clear HQ hlt hbb
   go_loopw [13,14] (λv i wr=> ∃(k d:Nat) (st:List Kd) (hs:List Int) (B:Option Addr) (cb:Nat),k<=n/\d<=k/\i=.int .i64 k/\v=.slice B d cb/\(aZ cols zs [] es=aZ cols zs st (es.drop k)/\hs.length=d/\bg hs (es.drop k)=0)/\KSt 173 w wr st d B cb) (λ_ i _=>n-(intOf i).toNat)
   case atStart=>exact ⟨0,0,[],[],none,0,Nat.zero_le _,Nat.zero_le _,rfl,rfl,⟨rfl,rfl,HE.out.2⟩,⟨Stk.nil_ _ _ _,rfl,hb⟩⟩
   case round=>
    clear hb
    obtain ⟨k,d,st,hs,B,cb,hk,hdk,rfl,rfl,heq,hst⟩:=hrel
    have HQ:=hide heq
    have HST:=hide hst
    clear heq hst
    by_cases hlt:k<n
    ·obtain ⟨b,off,x,rfl,hB,HX,f0,f1,f2,f3,f4,f5,hok⟩:=(hx.below HST.out.below).node hlt
     have HV:Hid (bg hs (x :: es.drop (k+1))=0):=hide (by rw[<-HX.out];exact HQ.out.2.2)
     obtain ⟨m,r,hs',hsh,hm,Jn,rfl,hl',hx'⟩:=mh HV.out HQ.out.2.1
     have HM:=hide hm
     have xS:=hide hsh
     have HL':=hide hl'
     have HX':=hide hx'
     have Ni:Hid (ig (aF cols zs x (st.drop r)).2.kind):=hide (Gu hok J6.out HST.out.stk.ok)
     clear hm hsh hl' hx' HV hok
     go_wp2_with fail
     refine (mo x _).mono ?_
     rintro e w2 ⟨rfl,hb2⟩
     rw[HM.out]
     have f0:=ah hb2 hB f0
     have f1:=ah hb2 hB f1
     have f2:=ah hb2 hB f2
     have f3:=ah hb2 hB f3
     have f4:=ah hb2 hB f4
     have f5:=ah hb2 hB f5
     have hB2:=Nat.lt_of_lt_of_le hB hb2.size
     have cZ:=hide (HST.out.keep hb2)
     clear hb2
     have hc2:=hc.below cZ.out.below
     have hz2:=hz.below cZ.out.below
     have r0:(0:Int)<=(r:Int):=by omega
     have r2:(r:Int)<=(r:Int)+(m:Int):=by omega
     obtain ⟨⟨er,kk,kn⟩,hnk⟩: ∃q,aF cols zs x (st.drop r)=q:=⟨_,rfl⟩
     rw[hnk]at Ni
     have yt:=hide hnk
     clear hnk
     by_cases her:er=0
     ·subst her
      rcases pV cZ.out.stk cZ.out.len with ⟨rfl,hm0⟩|⟨hcb,g,rfl,hin⟩
      ·have fB:Below w2.heap.size w2 (w2.alloc (.cells #[.int .i64 0,.bool false] 173)).drew:=((Below.refl _ _).alloc (Nat.le_refl _) _).drew
       have eu:Hid (In (w2.alloc (.cells #[.int .i64 0,.bool false] 173)).drew B m 0 (st.drop r)):=hide (by rw[List.drop_eq_nil_of_le (by rw[HST.out.len];omega),hm0];exact Sl.empty (by omega) (λ_=>rfl))
       have oQ:Hid (In w2.drew B m 0 (st.drop r)):=hide (by rw[List.drop_eq_nil_of_le (by rw[HST.out.len];omega),hm0];exact Sl.empty (by omega) (λ_=>rfl))
       clear hm0
       have ou:w2.heap.size<(w2.alloc (.cells #[.int .i64 0,.bool false] 173)).drew.heap.size:=by simp
       have kT:b<(w2.alloc (.cells #[.int .i64 0,.bool false] 173)).drew.heap.size:=by simp;omega
       have hbg:¬b=w2.heap.size:=by omega
       have u0:(w2.alloc (.cells #[.int .i64 0,.bool false] 173)).drew.cell? ⟨w2.heap.size,0,none⟩=some (.int .i64 0):=by simp[go_sem]
       have u1:(w2.alloc (.cells #[.int .i64 0,.bool false] 173)).drew.cell? ⟨w2.heap.size,1,none⟩=some (.bool false):=by simp[go_sem]
       have F0:(w2.alloc (.cells #[.int .i64 0,.bool false] 173)).drew.frozen? ⟨w2.heap.size,0,none⟩=false:=by simp[go_sem]
       have F1:(w2.alloc (.cells #[.int .i64 0,.bool false] 173)).drew.frozen? ⟨w2.heap.size,1,none⟩=false:=by simp[go_sem]
       have d0:=ah fB hB2 f0
       have d1:=ah fB hB2 f1
       have d2:=ah fB hB2 f2
       have d3:=ah fB hB2 f3
       have d4:=ah fB hB2 f4
       have d5:=ah fB hB2 f5
       go_wp2
       go_region_held3 (λV=>V.cell? ⟨b,off+k*6,none⟩=some (.int .i64 x.op)/\V.cell? ⟨b,off+k*6+1,none⟩=some (.int .i64 x.value.kind)/\V.cell? ⟨b,off+k*6+2,none⟩=some (.int .i64 x.value.num)/\V.cell? ⟨b,off+k*6+3,none⟩=some (.string x.value.str)/\V.cell? ⟨b,off+k*6+4,none⟩=some (.string x.name)/\V.cell? ⟨b,off+k*6+5,none⟩=some (.int .i64 x.arity)) (first|exact ⟨f0,f1,f2,f3,f4,f5⟩|exact ⟨f0',f1',f2',f3',f4',f5'⟩|exact ⟨d0,d1,d2,d3,d4,d5⟩|exact ⟨ae (ae f0' (.inl hbg)) (.inl hbg),ae (ae f1' (.inl hbg)) (.inl hbg),ae (ae f2' (.inl hbg)) (.inl hbg),ae (ae f3' (.inl hbg)) (.inl hbg),ae (ae f4' (.inl hbg)) (.inl hbg),ae (ae f5' (.inl hbg)) (.inl hbg)⟩|exact ⟨ah (b:=b) (af (w:=w5)) gK f0',ah (b:=b) (af (w:=w5)) gK f1',ah (b:=b) (af (w:=w5)) gK f2',ah (b:=b) (af (w:=w5)) gK f3',ah (b:=b) (af (w:=w5)) gK f4',ah (b:=b) (af (w:=w5)) gK f5'⟩|exact ⟨ae (ae (ah (b:=b) (af (w:=w5)) gK f0') (.inl dh)) (.inl dh),ae (ae (ah (b:=b) (af (w:=w5)) gK f1') (.inl dh)) (.inl dh),ae (ae (ah (b:=b) (af (w:=w5)) gK f2') (.inl dh)) (.inl dh),ae (ae (ah (b:=b) (af (w:=w5)) gK f3') (.inl dh)) (.inl dh),ae (ae (ah (b:=b) (af (w:=w5)) gK f4') (.inl dh)) (.inl dh),ae (ae (ah (b:=b) (af (w:=w5)) gK f5') (.inl dh)) (.inl dh)⟩) (first|(go_at_call 157;refine (lI x xS.out m HM.out _ _ _ (st.drop r) eu.out _ _ _ cols (hc2.below fB) _ _ _ zs (hz2.below fB)).mono ?_;rintro e w5 ⟨rfl,hb5⟩;rw[yt.out];simp only[Kd.cells];have hQ:Hid (w2.heap.size=w2.heap.size):=hide rfl;have f0':=ah hb5 kT d0;have f1':=ah hb5 kT d1;have f2':=ah hb5 kT d2;have f3':=ah hb5 kT d3;have f4':=ah hb5 kT d4;have f5':=ah hb5 kT d5;have u0':=ah hb5 ou u0;have u1':=ah hb5 ou u1;have F0':=((ai hb5).2 _ _ ou).trans F0;have F1':=((ai hb5).2 _ _ ou).trans F1;have lQ:Below w2.heap.size w2 w5:=fB.trans (hb5.mono fB.size);have gK:b<w5.heap.size:=Nat.lt_of_lt_of_le hB2 lQ.size;have dh:¬b=w5.heap.size:=(by omega);clear hb5 u0 u1 F0 F1)|(go_at_call 157;refine (lI x xS.out m HM.out _ _ _ (st.drop r) oQ.out _ _ _ cols (hc2.below (Below.refl _ _).drew) _ _ _ zs (hz2.below (Below.refl _ _).drew)).mono ?_;rintro e w5 ⟨rfl,hb5⟩;rw[yt.out];simp only[Kd.cells];have f0':=ah (ag hb5) hB2 f0;have f1':=ah (ag hb5) hB2 f1;have f2':=ah (ag hb5) hB2 f2;have f3':=ah (ag hb5) hB2 f3;have f4':=ah (ag hb5) hB2 f4;have f5':=ah (ag hb5) hB2 f5;have lQ:Below w2.heap.size w2 w5:=ag hb5;have gK:b<w5.heap.size:=Nat.lt_of_lt_of_le hB2 lQ.size;have dh:¬b=w5.heap.size:=(by omega);clear hb5 u0 u1 F0 F1))
       ·obtain ⟨w4,hw4⟩: ∃w4,w4=w5.alloc (.cells #[.int .i64 kk,.bool kn] 173):=⟨_,rfl⟩
        have hx4:Below w2.heap.size w2 w4:=by rw[hw4];exact lQ.alloc lQ.size _
        have u0:w4.cell? ⟨w5.heap.size,0,none⟩=some (.int .i64 kk):=by rw[hw4];simp[go_sem]
        have u1:w4.cell? ⟨w5.heap.size,1,none⟩=some (.bool kn):=by rw[hw4];simp[go_sem]
        rw[<-hw4]
        obtain ⟨G,hG⟩: ∃G,w5.heap.size=G:=⟨_,rfl⟩
        rw[hG]at u0 u1
        rw[hG]
        clear hw4 hG f0 f1 f2 f3 f4 f5 f0' f1' f2' f3' f4' f5' d0 d1 d2 d3 d4 d5 eu oQ lQ fB ou kT gK dh
        have HN:Hid (aZ cols zs [] es=aZ cols zs (st.take r++[⟨kk,kn⟩]) (es.drop (k+1))):=hide (by rw[HQ.out.1,HX.out,fU HM.out HST.out.len (k:=⟨kk,kn⟩) yt.out])
        have fH:=hide (cZ.out.keep hx4)
        have gF:Hid (r<=st.length):=hide (by rw[HST.out.len];omega)
        have hszW:w.heap.size<=w4.heap.size:=fH.out.below.size
        have hG4:G<w4.heap.size:=lt_of_cell u0
        have r1:(r:Int)<=(r:Int):=by have h1:=HST.out.stk.cap.1;have h2:=HST.out.len;omega
        clear hx4
        go_wp2
        go_region_held3 (λV=>V.cell? ⟨G,0,none⟩=some (.int .i64 kk)/\V.cell? ⟨G,1,none⟩=some (.bool kn)) (first|exact ⟨u0,u1⟩|exact ⟨ah ((Below.refl _ _).drew.alloc (Nat.le_refl _) _) hG4 u0,ah ((Below.refl _ _).drew.alloc (Nat.le_refl _) _) hG4 u1⟩|exact ⟨ah dC vU (ah ((Below.refl _ _).drew.alloc (Nat.le_refl _) _) hG4 u0),ah dC vU (ah ((Below.refl _ _).drew.alloc (Nat.le_refl _) _) hG4 u1)⟩) (first|(refine jv (α:=Kd) _ rfl (.tmp 75) (.tmp 77) 171 rfl w.heap.size 173 i0 _ 16 Tryz.underlying171 hi hy0 hy1 hy2 rfl (by decide) B r r st (fH.out.stk.keep ((Below.refl _ _).drew.alloc (Nat.le_refl _) _)) gF.out rfl ⟨kk,kn⟩ Ni.out w4.heap.size rfl (bX _ _ _ _ rfl) (by omega) (by simp;omega) ?_;intro A' c' w7 tQ dC;have vU:G<(World.alloc w4.drew (.cells #[.int .i64 kk,.bool kn] 173)).heap.size:=(by simp;omega);have HP:Hid (KSt 173 w w7 (st.take r++[⟨kk,kn⟩]) (r+1) A' c'):=hide ⟨tQ,(by rw[List.length_append,List.length_take,Nat.min_eq_left gF.out];rfl),(fH.out.below.drew.alloc (by simp;omega) _).trans (dC.mono (by simp;omega))⟩))
        go_wp2
        go_roundw
        case rel=>exact ⟨k+1,r+1,_,hs',A',c',by omega,by omega,by go_num,rfl,⟨HN.out,HL'.out,HX'.out⟩,HP.out⟩
        case measure=>simp[intOf];omega
       ·obtain ⟨w4,hw4⟩: ∃w4,w4=(w5.setCell ⟨w2.heap.size,0,none⟩ (.int .i64 kk)).setCell ⟨w2.heap.size,1,none⟩ (.bool kn):=⟨_,rfl⟩
        have hx4:Below w2.heap.size w2 w4:=by rw[hw4];exact aV lQ (Nat.le_refl _) _ _
        have u0:w4.cell? ⟨w2.heap.size,0,none⟩=some (.int .i64 kk):=by rw[hw4];exact bO u0' u1' 0 _ rfl
        have u1:w4.cell? ⟨w2.heap.size,1,none⟩=some (.bool kn):=by rw[hw4];exact bO u0' u1' 1 _ rfl
        rw[<-hw4]
        obtain ⟨G,hG⟩: ∃G,w2.heap.size=G:=⟨_,rfl⟩
        rw[hG]at u0 u1
        rw[hG]
        clear hw4 hG u0' u1' F0' F1' f0 f1 f2 f3 f4 f5 f0' f1' f2' f3' f4' f5' d0 d1 d2 d3 d4 d5 eu oQ lQ fB ou kT gK dh
        have HN:Hid (aZ cols zs [] es=aZ cols zs (st.take r++[⟨kk,kn⟩]) (es.drop (k+1))):=hide (by rw[HQ.out.1,HX.out,fU HM.out HST.out.len (k:=⟨kk,kn⟩) yt.out])
        have fH:=hide (cZ.out.keep hx4)
        have gF:Hid (r<=st.length):=hide (by rw[HST.out.len];omega)
        have hszW:w.heap.size<=w4.heap.size:=fH.out.below.size
        have hG4:G<w4.heap.size:=lt_of_cell u0
        have r1:(r:Int)<=(r:Int):=by have h1:=HST.out.stk.cap.1;have h2:=HST.out.len;omega
        clear hx4
        go_wp2
        go_region_held3 (λV=>V.cell? ⟨G,0,none⟩=some (.int .i64 kk)/\V.cell? ⟨G,1,none⟩=some (.bool kn)) (first|exact ⟨u0,u1⟩|exact ⟨ah ((Below.refl _ _).drew.alloc (Nat.le_refl _) _) hG4 u0,ah ((Below.refl _ _).drew.alloc (Nat.le_refl _) _) hG4 u1⟩|exact ⟨ah dC vU (ah ((Below.refl _ _).drew.alloc (Nat.le_refl _) _) hG4 u0),ah dC vU (ah ((Below.refl _ _).drew.alloc (Nat.le_refl _) _) hG4 u1)⟩) (first|(refine jv (α:=Kd) _ rfl (.tmp 75) (.tmp 77) 171 rfl w.heap.size 173 i0 _ 16 Tryz.underlying171 hi hy0 hy1 hy2 rfl (by decide) B r r st (fH.out.stk.keep ((Below.refl _ _).drew.alloc (Nat.le_refl _) _)) gF.out rfl ⟨kk,kn⟩ Ni.out w4.heap.size rfl (bX _ _ _ _ rfl) (by omega) (by simp;omega) ?_;intro A' c' w7 tQ dC;have vU:G<(World.alloc w4.drew (.cells #[.int .i64 kk,.bool kn] 173)).heap.size:=(by simp;omega);have HP:Hid (KSt 173 w w7 (st.take r++[⟨kk,kn⟩]) (r+1) A' c'):=hide ⟨tQ,(by rw[List.length_append,List.length_take,Nat.min_eq_left gF.out];rfl),(fH.out.below.drew.alloc (by simp;omega) _).trans (dC.mono (by simp;omega))⟩))
        go_wp2
        go_roundw
        case rel=>exact ⟨k+1,r+1,_,hs',A',c',by omega,by omega,by go_num,rfl,⟨HN.out,HL'.out,HX'.out⟩,HP.out⟩
        case measure=>simp[intOf];omega
      ·have fB:Below w2.heap.size w2 (w2.alloc (.cells #[.int .i64 0,.bool false] 173)).drew:=((Below.refl _ _).alloc (Nat.le_refl _) _).drew
       have eu:Hid (In (w2.alloc (.cells #[.int .i64 0,.bool false] 173)).drew (some ⟨g,r*2,none⟩) m (cb-r) (st.drop r)):=hide (hin.below fB)
       have oQ:Hid (In w2.drew (some ⟨g,r*2,none⟩) m (cb-r) (st.drop r)):=hide (hin.below (Below.refl _ _).drew)
       clear hin
       have ou:w2.heap.size<(w2.alloc (.cells #[.int .i64 0,.bool false] 173)).drew.heap.size:=by simp
       have kT:b<(w2.alloc (.cells #[.int .i64 0,.bool false] 173)).drew.heap.size:=by simp;omega
       have hbg:¬b=w2.heap.size:=by omega
       have u0:(w2.alloc (.cells #[.int .i64 0,.bool false] 173)).drew.cell? ⟨w2.heap.size,0,none⟩=some (.int .i64 0):=by simp[go_sem]
       have u1:(w2.alloc (.cells #[.int .i64 0,.bool false] 173)).drew.cell? ⟨w2.heap.size,1,none⟩=some (.bool false):=by simp[go_sem]
       have F0:(w2.alloc (.cells #[.int .i64 0,.bool false] 173)).drew.frozen? ⟨w2.heap.size,0,none⟩=false:=by simp[go_sem]
       have F1:(w2.alloc (.cells #[.int .i64 0,.bool false] 173)).drew.frozen? ⟨w2.heap.size,1,none⟩=false:=by simp[go_sem]
       have d0:=ah fB hB2 f0
       have d1:=ah fB hB2 f1
       have d2:=ah fB hB2 f2
       have d3:=ah fB hB2 f3
       have d4:=ah fB hB2 f4
       have d5:=ah fB hB2 f5
       go_wp2
       go_region_held3 (λV=>V.cell? ⟨b,off+k*6,none⟩=some (.int .i64 x.op)/\V.cell? ⟨b,off+k*6+1,none⟩=some (.int .i64 x.value.kind)/\V.cell? ⟨b,off+k*6+2,none⟩=some (.int .i64 x.value.num)/\V.cell? ⟨b,off+k*6+3,none⟩=some (.string x.value.str)/\V.cell? ⟨b,off+k*6+4,none⟩=some (.string x.name)/\V.cell? ⟨b,off+k*6+5,none⟩=some (.int .i64 x.arity)) (first|exact ⟨f0,f1,f2,f3,f4,f5⟩|exact ⟨f0',f1',f2',f3',f4',f5'⟩|exact ⟨d0,d1,d2,d3,d4,d5⟩|exact ⟨ae (ae f0' (.inl hbg)) (.inl hbg),ae (ae f1' (.inl hbg)) (.inl hbg),ae (ae f2' (.inl hbg)) (.inl hbg),ae (ae f3' (.inl hbg)) (.inl hbg),ae (ae f4' (.inl hbg)) (.inl hbg),ae (ae f5' (.inl hbg)) (.inl hbg)⟩|exact ⟨ah (b:=b) (af (w:=w5)) gK f0',ah (b:=b) (af (w:=w5)) gK f1',ah (b:=b) (af (w:=w5)) gK f2',ah (b:=b) (af (w:=w5)) gK f3',ah (b:=b) (af (w:=w5)) gK f4',ah (b:=b) (af (w:=w5)) gK f5'⟩|exact ⟨ae (ae (ah (b:=b) (af (w:=w5)) gK f0') (.inl dh)) (.inl dh),ae (ae (ah (b:=b) (af (w:=w5)) gK f1') (.inl dh)) (.inl dh),ae (ae (ah (b:=b) (af (w:=w5)) gK f2') (.inl dh)) (.inl dh),ae (ae (ah (b:=b) (af (w:=w5)) gK f3') (.inl dh)) (.inl dh),ae (ae (ah (b:=b) (af (w:=w5)) gK f4') (.inl dh)) (.inl dh),ae (ae (ah (b:=b) (af (w:=w5)) gK f5') (.inl dh)) (.inl dh)⟩) (first|(go_at_call 157;refine (lI x xS.out m HM.out _ _ _ (st.drop r) eu.out _ _ _ cols (hc2.below fB) _ _ _ zs (hz2.below fB)).mono ?_;rintro e w5 ⟨rfl,hb5⟩;rw[yt.out];simp only[Kd.cells];have hQ:Hid (w2.heap.size=w2.heap.size):=hide rfl;have f0':=ah hb5 kT d0;have f1':=ah hb5 kT d1;have f2':=ah hb5 kT d2;have f3':=ah hb5 kT d3;have f4':=ah hb5 kT d4;have f5':=ah hb5 kT d5;have u0':=ah hb5 ou u0;have u1':=ah hb5 ou u1;have F0':=((ai hb5).2 _ _ ou).trans F0;have F1':=((ai hb5).2 _ _ ou).trans F1;have lQ:Below w2.heap.size w2 w5:=fB.trans (hb5.mono fB.size);have gK:b<w5.heap.size:=Nat.lt_of_lt_of_le hB2 lQ.size;have dh:¬b=w5.heap.size:=(by omega);clear hb5 u0 u1 F0 F1)|(go_at_call 157;refine (lI x xS.out m HM.out _ _ _ (st.drop r) oQ.out _ _ _ cols (hc2.below (Below.refl _ _).drew) _ _ _ zs (hz2.below (Below.refl _ _).drew)).mono ?_;rintro e w5 ⟨rfl,hb5⟩;rw[yt.out];simp only[Kd.cells];have f0':=ah (ag hb5) hB2 f0;have f1':=ah (ag hb5) hB2 f1;have f2':=ah (ag hb5) hB2 f2;have f3':=ah (ag hb5) hB2 f3;have f4':=ah (ag hb5) hB2 f4;have f5':=ah (ag hb5) hB2 f5;have lQ:Below w2.heap.size w2 w5:=ag hb5;have gK:b<w5.heap.size:=Nat.lt_of_lt_of_le hB2 lQ.size;have dh:¬b=w5.heap.size:=(by omega);clear hb5 u0 u1 F0 F1))
       ·obtain ⟨w4,hw4⟩: ∃w4,w4=w5.alloc (.cells #[.int .i64 kk,.bool kn] 173):=⟨_,rfl⟩
        have hx4:Below w2.heap.size w2 w4:=by rw[hw4];exact lQ.alloc lQ.size _
        have u0:w4.cell? ⟨w5.heap.size,0,none⟩=some (.int .i64 kk):=by rw[hw4];simp[go_sem]
        have u1:w4.cell? ⟨w5.heap.size,1,none⟩=some (.bool kn):=by rw[hw4];simp[go_sem]
        rw[<-hw4]
        obtain ⟨G,hG⟩: ∃G,w5.heap.size=G:=⟨_,rfl⟩
        rw[hG]at u0 u1
        rw[hG]
        clear hw4 hG f0 f1 f2 f3 f4 f5 f0' f1' f2' f3' f4' f5' d0 d1 d2 d3 d4 d5 eu oQ lQ fB ou kT gK dh
        have HN:Hid (aZ cols zs [] es=aZ cols zs (st.take r++[⟨kk,kn⟩]) (es.drop (k+1))):=hide (by rw[HQ.out.1,HX.out,fU HM.out HST.out.len (k:=⟨kk,kn⟩) yt.out])
        have fH:=hide (cZ.out.keep hx4)
        have gF:Hid (r<=st.length):=hide (by rw[HST.out.len];omega)
        have hszW:w.heap.size<=w4.heap.size:=fH.out.below.size
        have hG4:G<w4.heap.size:=lt_of_cell u0
        have r1:(r:Int)<=(cb:Int):=by have h1:=HST.out.stk.cap.1;have h2:=HST.out.len;omega
        clear hx4
        go_wp2
        go_region_held3 (λV=>V.cell? ⟨G,0,none⟩=some (.int .i64 kk)/\V.cell? ⟨G,1,none⟩=some (.bool kn)) (first|exact ⟨u0,u1⟩|exact ⟨ah ((Below.refl _ _).drew.alloc (Nat.le_refl _) _) hG4 u0,ah ((Below.refl _ _).drew.alloc (Nat.le_refl _) _) hG4 u1⟩|exact ⟨ah dC vU (ah ((Below.refl _ _).drew.alloc (Nat.le_refl _) _) hG4 u0),ah dC vU (ah ((Below.refl _ _).drew.alloc (Nat.le_refl _) _) hG4 u1)⟩) (first|(refine jv (α:=Kd) _ rfl (.tmp 75) (.tmp 77) 171 rfl w.heap.size 173 i0 _ 16 Tryz.underlying171 hi hy0 hy1 hy2 rfl (by decide) (some ⟨g,0,none⟩) cb r st (fH.out.stk.keep ((Below.refl _ _).drew.alloc (Nat.le_refl _) _)) gF.out rfl ⟨kk,kn⟩ Ni.out w4.heap.size rfl (bX _ _ _ _ rfl) (by omega) (by simp;omega) ?_;intro A' c' w7 tQ dC;have vU:G<(World.alloc w4.drew (.cells #[.int .i64 kk,.bool kn] 173)).heap.size:=(by simp;omega);have HP:Hid (KSt 173 w w7 (st.take r++[⟨kk,kn⟩]) (r+1) A' c'):=hide ⟨tQ,(by rw[List.length_append,List.length_take,Nat.min_eq_left gF.out];rfl),(fH.out.below.drew.alloc (by simp;omega) _).trans (dC.mono (by simp;omega))⟩))
        go_wp2
        go_roundw
        case rel=>exact ⟨k+1,r+1,_,hs',A',c',by omega,by omega,by go_num,rfl,⟨HN.out,HL'.out,HX'.out⟩,HP.out⟩
        case measure=>simp[intOf];omega
       ·obtain ⟨w4,hw4⟩: ∃w4,w4=(w5.setCell ⟨w2.heap.size,0,none⟩ (.int .i64 kk)).setCell ⟨w2.heap.size,1,none⟩ (.bool kn):=⟨_,rfl⟩
        have hx4:Below w2.heap.size w2 w4:=by rw[hw4];exact aV lQ (Nat.le_refl _) _ _
        have u0:w4.cell? ⟨w2.heap.size,0,none⟩=some (.int .i64 kk):=by rw[hw4];exact bO u0' u1' 0 _ rfl
        have u1:w4.cell? ⟨w2.heap.size,1,none⟩=some (.bool kn):=by rw[hw4];exact bO u0' u1' 1 _ rfl
        rw[<-hw4]
        obtain ⟨G,hG⟩: ∃G,w2.heap.size=G:=⟨_,rfl⟩
        rw[hG]at u0 u1
        rw[hG]
        clear hw4 hG u0' u1' F0' F1' f0 f1 f2 f3 f4 f5 f0' f1' f2' f3' f4' f5' d0 d1 d2 d3 d4 d5 eu oQ lQ fB ou kT gK dh
        have HN:Hid (aZ cols zs [] es=aZ cols zs (st.take r++[⟨kk,kn⟩]) (es.drop (k+1))):=hide (by rw[HQ.out.1,HX.out,fU HM.out HST.out.len (k:=⟨kk,kn⟩) yt.out])
        have fH:=hide (cZ.out.keep hx4)
        have gF:Hid (r<=st.length):=hide (by rw[HST.out.len];omega)
        have hszW:w.heap.size<=w4.heap.size:=fH.out.below.size
        have hG4:G<w4.heap.size:=lt_of_cell u0
        have r1:(r:Int)<=(cb:Int):=by have h1:=HST.out.stk.cap.1;have h2:=HST.out.len;omega
        clear hx4
        go_wp2
        go_region_held3 (λV=>V.cell? ⟨G,0,none⟩=some (.int .i64 kk)/\V.cell? ⟨G,1,none⟩=some (.bool kn)) (first|exact ⟨u0,u1⟩|exact ⟨ah ((Below.refl _ _).drew.alloc (Nat.le_refl _) _) hG4 u0,ah ((Below.refl _ _).drew.alloc (Nat.le_refl _) _) hG4 u1⟩|exact ⟨ah dC vU (ah ((Below.refl _ _).drew.alloc (Nat.le_refl _) _) hG4 u0),ah dC vU (ah ((Below.refl _ _).drew.alloc (Nat.le_refl _) _) hG4 u1)⟩) (first|(refine jv (α:=Kd) _ rfl (.tmp 75) (.tmp 77) 171 rfl w.heap.size 173 i0 _ 16 Tryz.underlying171 hi hy0 hy1 hy2 rfl (by decide) (some ⟨g,0,none⟩) cb r st (fH.out.stk.keep ((Below.refl _ _).drew.alloc (Nat.le_refl _) _)) gF.out rfl ⟨kk,kn⟩ Ni.out w4.heap.size rfl (bX _ _ _ _ rfl) (by omega) (by simp;omega) ?_;intro A' c' w7 tQ dC;have vU:G<(World.alloc w4.drew (.cells #[.int .i64 kk,.bool kn] 173)).heap.size:=(by simp;omega);have HP:Hid (KSt 173 w w7 (st.take r++[⟨kk,kn⟩]) (r+1) A' c'):=hide ⟨tQ,(by rw[List.length_append,List.length_take,Nat.min_eq_left gF.out];rfl),(fH.out.below.drew.alloc (by simp;omega) _).trans (dC.mono (by simp;omega))⟩))
        go_wp2
        go_roundw
        case rel=>exact ⟨k+1,r+1,_,hs',A',c',by omega,by omega,by go_num,rfl,⟨HN.out,HL'.out,HX'.out⟩,HP.out⟩
        case measure=>simp[intOf];omega
     ·have q2:(er != 0)=true:=by simpa using her
      have HN:Hid (cK es cols zs=(er,default)):=hide (by rw[HT.out,HQ.out.1,HX.out,fT HM.out HST.out.len (e:=er) (by rw[yt.out]) her])
      clear her
      rcases pV cZ.out.stk cZ.out.len with ⟨rfl,hm0⟩|⟨hcb,g,rfl,hin⟩
      ·have fB:Below w2.heap.size w2 (w2.alloc (.cells #[.int .i64 0,.bool false] 173)).drew:=((Below.refl _ _).alloc (Nat.le_refl _) _).drew
       have eu:Hid (In (w2.alloc (.cells #[.int .i64 0,.bool false] 173)).drew B m 0 (st.drop r)):=hide (by rw[List.drop_eq_nil_of_le (by rw[HST.out.len];omega),hm0];exact Sl.empty (by omega) (λ_=>rfl))
       have oQ:Hid (In w2.drew B m 0 (st.drop r)):=hide (by rw[List.drop_eq_nil_of_le (by rw[HST.out.len];omega),hm0];exact Sl.empty (by omega) (λ_=>rfl))
       clear hm0
       have ou:w2.heap.size<(w2.alloc (.cells #[.int .i64 0,.bool false] 173)).drew.heap.size:=by simp
       have kT:b<(w2.alloc (.cells #[.int .i64 0,.bool false] 173)).drew.heap.size:=by simp;omega
       have hbg:¬b=w2.heap.size:=by omega
       have u0:(w2.alloc (.cells #[.int .i64 0,.bool false] 173)).drew.cell? ⟨w2.heap.size,0,none⟩=some (.int .i64 0):=by simp[go_sem]
       have u1:(w2.alloc (.cells #[.int .i64 0,.bool false] 173)).drew.cell? ⟨w2.heap.size,1,none⟩=some (.bool false):=by simp[go_sem]
       have F0:(w2.alloc (.cells #[.int .i64 0,.bool false] 173)).drew.frozen? ⟨w2.heap.size,0,none⟩=false:=by simp[go_sem]
       have F1:(w2.alloc (.cells #[.int .i64 0,.bool false] 173)).drew.frozen? ⟨w2.heap.size,1,none⟩=false:=by simp[go_sem]
       have d0:=ah fB hB2 f0
       have d1:=ah fB hB2 f1
       have d2:=ah fB hB2 f2
       have d3:=ah fB hB2 f3
       have d4:=ah fB hB2 f4
       have d5:=ah fB hB2 f5
       go_wp2
       go_region_held3 (λV=>V.cell? ⟨b,off+k*6,none⟩=some (.int .i64 x.op)/\V.cell? ⟨b,off+k*6+1,none⟩=some (.int .i64 x.value.kind)/\V.cell? ⟨b,off+k*6+2,none⟩=some (.int .i64 x.value.num)/\V.cell? ⟨b,off+k*6+3,none⟩=some (.string x.value.str)/\V.cell? ⟨b,off+k*6+4,none⟩=some (.string x.name)/\V.cell? ⟨b,off+k*6+5,none⟩=some (.int .i64 x.arity)) (first|exact ⟨f0,f1,f2,f3,f4,f5⟩|exact ⟨f0',f1',f2',f3',f4',f5'⟩|exact ⟨d0,d1,d2,d3,d4,d5⟩|exact ⟨ae (ae f0' (.inl hbg)) (.inl hbg),ae (ae f1' (.inl hbg)) (.inl hbg),ae (ae f2' (.inl hbg)) (.inl hbg),ae (ae f3' (.inl hbg)) (.inl hbg),ae (ae f4' (.inl hbg)) (.inl hbg),ae (ae f5' (.inl hbg)) (.inl hbg)⟩|exact ⟨ah (b:=b) (af (w:=w5)) gK f0',ah (b:=b) (af (w:=w5)) gK f1',ah (b:=b) (af (w:=w5)) gK f2',ah (b:=b) (af (w:=w5)) gK f3',ah (b:=b) (af (w:=w5)) gK f4',ah (b:=b) (af (w:=w5)) gK f5'⟩|exact ⟨ae (ae (ah (b:=b) (af (w:=w5)) gK f0') (.inl dh)) (.inl dh),ae (ae (ah (b:=b) (af (w:=w5)) gK f1') (.inl dh)) (.inl dh),ae (ae (ah (b:=b) (af (w:=w5)) gK f2') (.inl dh)) (.inl dh),ae (ae (ah (b:=b) (af (w:=w5)) gK f3') (.inl dh)) (.inl dh),ae (ae (ah (b:=b) (af (w:=w5)) gK f4') (.inl dh)) (.inl dh),ae (ae (ah (b:=b) (af (w:=w5)) gK f5') (.inl dh)) (.inl dh)⟩) (first|(go_at_call 157;refine (lI x xS.out m HM.out _ _ _ (st.drop r) eu.out _ _ _ cols (hc2.below fB) _ _ _ zs (hz2.below fB)).mono ?_;rintro e w5 ⟨rfl,hb5⟩;rw[yt.out];simp only[Kd.cells];have hQ:Hid (w2.heap.size=w2.heap.size):=hide rfl;have f0':=ah hb5 kT d0;have f1':=ah hb5 kT d1;have f2':=ah hb5 kT d2;have f3':=ah hb5 kT d3;have f4':=ah hb5 kT d4;have f5':=ah hb5 kT d5;have u0':=ah hb5 ou u0;have u1':=ah hb5 ou u1;have F0':=((ai hb5).2 _ _ ou).trans F0;have F1':=((ai hb5).2 _ _ ou).trans F1;have lQ:Below w2.heap.size w2 w5:=fB.trans (hb5.mono fB.size);have gK:b<w5.heap.size:=Nat.lt_of_lt_of_le hB2 lQ.size;have dh:¬b=w5.heap.size:=(by omega);clear hb5 u0 u1 F0 F1)|(go_at_call 157;refine (lI x xS.out m HM.out _ _ _ (st.drop r) oQ.out _ _ _ cols (hc2.below (Below.refl _ _).drew) _ _ _ zs (hz2.below (Below.refl _ _).drew)).mono ?_;rintro e w5 ⟨rfl,hb5⟩;rw[yt.out];simp only[Kd.cells];have f0':=ah (ag hb5) hB2 f0;have f1':=ah (ag hb5) hB2 f1;have f2':=ah (ag hb5) hB2 f2;have f3':=ah (ag hb5) hB2 f3;have f4':=ah (ag hb5) hB2 f4;have f5':=ah (ag hb5) hB2 f5;have lQ:Below w2.heap.size w2 w5:=ag hb5;have gK:b<w5.heap.size:=Nat.lt_of_lt_of_le hB2 lQ.size;have dh:¬b=w5.heap.size:=(by omega);clear hb5 u0 u1 F0 F1))
       ·go_wp2
        go_ret3
        exact ⟨by rw[HN.out];rfl,(cZ.out.below.trans (lQ.mono cZ.out.below.size)).alloc (cZ.out.below.trans (lQ.mono cZ.out.below.size)).size _⟩
       ·go_wp2
        go_ret3
        exact ⟨by rw[HN.out];rfl,aV (cZ.out.below.trans (lQ.mono cZ.out.below.size)) cZ.out.below.size _ _⟩
      ·have fB:Below w2.heap.size w2 (w2.alloc (.cells #[.int .i64 0,.bool false] 173)).drew:=((Below.refl _ _).alloc (Nat.le_refl _) _).drew
       have eu:Hid (In (w2.alloc (.cells #[.int .i64 0,.bool false] 173)).drew (some ⟨g,r*2,none⟩) m (cb-r) (st.drop r)):=hide (hin.below fB)
       have oQ:Hid (In w2.drew (some ⟨g,r*2,none⟩) m (cb-r) (st.drop r)):=hide (hin.below (Below.refl _ _).drew)
       clear hin
       have ou:w2.heap.size<(w2.alloc (.cells #[.int .i64 0,.bool false] 173)).drew.heap.size:=by simp
       have kT:b<(w2.alloc (.cells #[.int .i64 0,.bool false] 173)).drew.heap.size:=by simp;omega
       have hbg:¬b=w2.heap.size:=by omega
       have u0:(w2.alloc (.cells #[.int .i64 0,.bool false] 173)).drew.cell? ⟨w2.heap.size,0,none⟩=some (.int .i64 0):=by simp[go_sem]
       have u1:(w2.alloc (.cells #[.int .i64 0,.bool false] 173)).drew.cell? ⟨w2.heap.size,1,none⟩=some (.bool false):=by simp[go_sem]
       have F0:(w2.alloc (.cells #[.int .i64 0,.bool false] 173)).drew.frozen? ⟨w2.heap.size,0,none⟩=false:=by simp[go_sem]
       have F1:(w2.alloc (.cells #[.int .i64 0,.bool false] 173)).drew.frozen? ⟨w2.heap.size,1,none⟩=false:=by simp[go_sem]
       have d0:=ah fB hB2 f0
       have d1:=ah fB hB2 f1
       have d2:=ah fB hB2 f2
       have d3:=ah fB hB2 f3
       have d4:=ah fB hB2 f4
       have d5:=ah fB hB2 f5
       go_wp2
       go_region_held3 (λV=>V.cell? ⟨b,off+k*6,none⟩=some (.int .i64 x.op)/\V.cell? ⟨b,off+k*6+1,none⟩=some (.int .i64 x.value.kind)/\V.cell? ⟨b,off+k*6+2,none⟩=some (.int .i64 x.value.num)/\V.cell? ⟨b,off+k*6+3,none⟩=some (.string x.value.str)/\V.cell? ⟨b,off+k*6+4,none⟩=some (.string x.name)/\V.cell? ⟨b,off+k*6+5,none⟩=some (.int .i64 x.arity)) (first|exact ⟨f0,f1,f2,f3,f4,f5⟩|exact ⟨f0',f1',f2',f3',f4',f5'⟩|exact ⟨d0,d1,d2,d3,d4,d5⟩|exact ⟨ae (ae f0' (.inl hbg)) (.inl hbg),ae (ae f1' (.inl hbg)) (.inl hbg),ae (ae f2' (.inl hbg)) (.inl hbg),ae (ae f3' (.inl hbg)) (.inl hbg),ae (ae f4' (.inl hbg)) (.inl hbg),ae (ae f5' (.inl hbg)) (.inl hbg)⟩|exact ⟨ah (b:=b) (af (w:=w5)) gK f0',ah (b:=b) (af (w:=w5)) gK f1',ah (b:=b) (af (w:=w5)) gK f2',ah (b:=b) (af (w:=w5)) gK f3',ah (b:=b) (af (w:=w5)) gK f4',ah (b:=b) (af (w:=w5)) gK f5'⟩|exact ⟨ae (ae (ah (b:=b) (af (w:=w5)) gK f0') (.inl dh)) (.inl dh),ae (ae (ah (b:=b) (af (w:=w5)) gK f1') (.inl dh)) (.inl dh),ae (ae (ah (b:=b) (af (w:=w5)) gK f2') (.inl dh)) (.inl dh),ae (ae (ah (b:=b) (af (w:=w5)) gK f3') (.inl dh)) (.inl dh),ae (ae (ah (b:=b) (af (w:=w5)) gK f4') (.inl dh)) (.inl dh),ae (ae (ah (b:=b) (af (w:=w5)) gK f5') (.inl dh)) (.inl dh)⟩) (first|(go_at_call 157;refine (lI x xS.out m HM.out _ _ _ (st.drop r) eu.out _ _ _ cols (hc2.below fB) _ _ _ zs (hz2.below fB)).mono ?_;rintro e w5 ⟨rfl,hb5⟩;rw[yt.out];simp only[Kd.cells];have hQ:Hid (w2.heap.size=w2.heap.size):=hide rfl;have f0':=ah hb5 kT d0;have f1':=ah hb5 kT d1;have f2':=ah hb5 kT d2;have f3':=ah hb5 kT d3;have f4':=ah hb5 kT d4;have f5':=ah hb5 kT d5;have u0':=ah hb5 ou u0;have u1':=ah hb5 ou u1;have F0':=((ai hb5).2 _ _ ou).trans F0;have F1':=((ai hb5).2 _ _ ou).trans F1;have lQ:Below w2.heap.size w2 w5:=fB.trans (hb5.mono fB.size);have gK:b<w5.heap.size:=Nat.lt_of_lt_of_le hB2 lQ.size;have dh:¬b=w5.heap.size:=(by omega);clear hb5 u0 u1 F0 F1)|(go_at_call 157;refine (lI x xS.out m HM.out _ _ _ (st.drop r) oQ.out _ _ _ cols (hc2.below (Below.refl _ _).drew) _ _ _ zs (hz2.below (Below.refl _ _).drew)).mono ?_;rintro e w5 ⟨rfl,hb5⟩;rw[yt.out];simp only[Kd.cells];have f0':=ah (ag hb5) hB2 f0;have f1':=ah (ag hb5) hB2 f1;have f2':=ah (ag hb5) hB2 f2;have f3':=ah (ag hb5) hB2 f3;have f4':=ah (ag hb5) hB2 f4;have f5':=ah (ag hb5) hB2 f5;have lQ:Below w2.heap.size w2 w5:=ag hb5;have gK:b<w5.heap.size:=Nat.lt_of_lt_of_le hB2 lQ.size;have dh:¬b=w5.heap.size:=(by omega);clear hb5 u0 u1 F0 F1))
       ·go_wp2
        go_ret3
        exact ⟨by rw[HN.out];rfl,(cZ.out.below.trans (lQ.mono cZ.out.below.size)).alloc (cZ.out.below.trans (lQ.mono cZ.out.below.size)).size _⟩
       ·go_wp2
        go_ret3
        exact ⟨by rw[HN.out];rfl,aV (cZ.out.below.trans (lQ.mono cZ.out.below.size)) cZ.out.below.size _ _⟩
    ·have HX:=hide (aP hx.len (show n<=k by omega))
     have hd1:d=1:=mg (by rw[<-HX.out];exact HQ.out.2.2) HQ.out.2.1
     subst hd1
     have eu:Hid (In wr B 1 cb st):=hide (by have:=HST.out.stk.inn;rw[HST.out.len]at this;exact this)
     obtain ⟨b3,Db,y,rfl,hB3,HY,y0,y1,y2⟩:=eu.out.kd (show 0<1 by omega)
     simp only[Nat.zero_mul,Nat.add_zero]at y0 y1
     have HR:Hid (cK es cols zs=(0,y)):=hide (by
      rw[HT.out,HQ.out.1,HX.out,aZ]
      have:=HY.out
      rw[List.drop_zero]at this
      rw[this];rfl)
     have k0:(0:Int)<(1:Int):=by omega
     go_wp2
     go_quiet (fail)
     go_wp2
     go_ret3
     exact ⟨by rw[HR.out];rfl,below_drewN HST.out.below _⟩
end Go.Proofs.YtggejcekmehocaaGreatDoor
