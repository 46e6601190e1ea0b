/-
  warehouseref9.Type: it returns typeS. (Printed by gen_typeR.py.)
-/
import Derived.Deep.RegionLawGrows
import Derived.Test.YthnelebakkggjaaGreatDoorNode
namespace Go.Proofs.YthnelebakkggjaaGreatDoor
set_option maxHeartbeats 40000000
set_option maxRecDepth 100000
open Go.RowKit
set_option linter.unusedSimpArgs false
set_option linter.unusedVariables false
theorem Jf:(Tryz.prog.info? 158).map (λi=>(i.zero,i.size,i.bytes))=some (some (.agg #[.int .i64 0,.bool false]),2,16):=by kernel_rfl
theorem oM (x:Node)(F:shaped x=true)(K:x.ok)(m:Nat)(u:arity x.op x.arity=(m:Int))(w:World)(A:Option Addr)(c:Nat)(xs:List Kd)(j:In w A m c xs)(f:Option Addr)(h c1:Nat)(cols:List Col)(l:In w f h c1 cols)(g:Option Addr)(i c2:Nat)(zs:List Zone)(n:In w g i c2 zs):
  Calls Tryz.prog 137 #[.agg x.cells.toArray,.slice A m c,.slice f h c1,.slice g i c2] w λe w'=>e=.returned (.tuple #[.agg (fo cols zs x xs).2.cells.toArray,.int .i64 (fo cols zs x xs).1])/\Below w.heap.size w w':=by
 have E:=λz v=>pM F z v;obtain⟨p,⟨kd,o,st⟩,nm,k⟩:=x;simp only at E u;clear F;by_cases z:p=1
 ·subst z;exact MH kd o k st nm w f h c1 cols l g i c2 zs n A m c xs
 by_cases v:p=21
 ·subst v;exact Le kd o k st nm w f h c1 cols l g i c2 zs n A m c xs
 rcases E z v with rfl|⟨L,J⟩
 ·have e:m=0:=by simp[arity]at u;omega
  subst e;obtain rfl:=j.len0;exact MG kd o k st nm w f h c1 cols l g i c2 zs n A 0 c
 by_cases H:p=20
 ·subst H;by_cases I:jC zs nm<0
  ·exact Jn kd o k st nm w f h c1 cols l g i c2 zs n A m c xs I
  ·have e:m=1:=by simp[arity]at u;omega
   subst e;obtain⟨⟨a,d⟩,b,off,rfl,rfl⟩:=j.len1;cases D:(jc 20 ⟨a,d⟩).2
   ·exact F6 kd o k st nm w f h c1 cols l g i c2 zs n b off c a d j Ho
   ·exact F6 kd o k st nm w f h c1 cols l g i c2 zs n b off c a d j Ho
 by_cases C:p=17
 ·subst C;have e:m=3:=by simp[arity]at u;omega
  subst e;obtain⟨⟨a,d⟩,⟨q,y⟩,⟨r,s⟩,b,off,rfl,rfl⟩:=j.len3;cases y
  ·cases t:(common ⟨q,false⟩ ⟨r,s⟩).2
   ·exact E8 kd o k st nm w f h c1 cols l g i c2 zs n b off c a d q r s j t
   ·cases B:fits ⟨a,d⟩ 1
    ·exact zf kd o k st nm w f h c1 cols l g i c2 zs n b off c a d q r s j t
    ·exact zf kd o k st nm w f h c1 cols l g i c2 zs n b off c a d q r s j t
  ·cases t:(common ⟨q,true⟩ ⟨r,s⟩).2
   ·exact E9 kd o k st nm w f h c1 cols l g i c2 zs n b off c a d q r s j t
   ·cases B:fits ⟨a,d⟩ 1
    ·exact Dw kd o k st nm w f h c1 cols l g i c2 zs n b off c a d q r s j t B
    ·exact Dx kd o k st nm w f h c1 cols l g i c2 zs n b off c a d q r s j t B
 by_cases G:p=2\/p=3\/p=16\/p=19
 ·have e:m=1:=by rw[arity,if_neg Ho,if_pos Ho]at u;omega
  subst e;obtain⟨⟨a,d⟩,b,off,rfl,rfl⟩:=j.len1;cases D:(jc p ⟨a,d⟩).2
  ·exact F7 p kd o k st nm w f h c1 cols l g i c2 zs n b off c a d j G
  ·exact F7 p kd o k st nm w f h c1 cols l g i c2 zs n b off c a d j G
 ·have e:m=2:=by rw[arity,if_neg Ho,if_neg Ho,if_neg C,if_neg v,if_pos Ho]at u;omega
  subst e;obtain⟨⟨a,d⟩,⟨q,y⟩,b,off,rfl,rfl⟩:=j.len2;cases D:(fH p ⟨a,d⟩ ⟨q,y⟩).2
  ·exact Dy p kd o k st nm w f h c1 cols l g i c2 zs n b off c a d q y j Ho
  ·exact Dy p kd o k st nm w f h c1 cols l g i c2 zs n b off c a d q y j Ho
theorem l6 {α:Type}[Flat α]{P:Program}(w:World){ab:Array Oper}{o:Oper}{a:Act}{K:Act->World->Prop}{Q:Exit->Act->World->Prop}{E:Prop}(R:o.guard=none)(s x:Operand)(t:TypeId)(U:o.op=.call {callee:=.builtin .append,args:= #[s,x],argTypes:= #[t,t]})(B:Nat)(e:TypeId)(i:TypeInfo)(z:Value)(bytes:Nat)(X:P.underlying t=some (.slice e))(hi:P.info? e=some i)(hz:i.zero=some z)(W:i.size=Rep.size α)(N:i.bytes=bytes)(aa:z.cells.size=Rep.size α)(M:bytes<=256)(A:Option Addr)(c k:Nat)(xs:List α)(V:Stk B w e A c xs)(T:k<=xs.length)(hs:a.eval s=.slice A k k)(y:α)(Z:Flat.ok y)(b:Nat)(Y:a.eval x=.slice (some ⟨b,0,none⟩) 1 1)(O:FO w b y)(hm:k<=1048576)(D:B<=w.heap.size)(h: ∀A' c' w',Stk B w' e A' c' (xs.take k++[y])->Below w.heap.size w w'->K (a.put o.dst (.slice A' (k+1) c')) w'):
  if Region.wanted o (yielded ab a.tmps)=true then Oper.wp P o a w K Q else E:=by
 have p:=V.take T;have G:(xs.take k).length=k:=by rw[List.length_take];omega
 refine step_append_grows (P:=P) (w:=w) R s x t U e i z (Rep.size α) bytes X hi hz W N aa Flat.pos A k k ((xs.take k).flatMap Flat.cs) hs (λd=>by have:=p.none_ d;omega) (by rw[oI,G]) ?_
  ⟨b,0,none⟩ 1 1 (Flat.cs y) Y (by rw[Flat.cs_len];omega) (λj u l=>by rw[jv,Nat.zero_add];exact O j u l) (Flat.cs_one y) Ho (by simp only[maxLen];omega) ?_ ?_
 ·intro ad d j u l;rcases p.own.2 with ⟨m,_⟩|⟨g,cap,v,n,D,S,h4,J,h6,L⟩
  ·injection m with m;subst m;cases d
  ·injection n with n;subst n;injection d with d;subst d;rw[jv,Nat.zero_add,cell_of_row w g j v e (0,0) S,<-Array.getElem?_toList];rw[<-L,List.getElem?_take]at l
   split at l
   ·exact l
   ·cases l
 ·have:(k+1)*bytes<=1048577*256:=Nat.mul_le_mul Ho M;omega
 ·intro v' w1 I m;have hb:Below w.heap.size w w1:=(Below.refl w.heap.size w).grown m IK (λg F=>by cases F);have C:=Cb I D;rcases C.2 with ⟨_,J⟩|⟨g,cap,v,n,F,r⟩
  ·omega
  ·subst n;refine h _ _ _ ⟨?_,?_⟩ hb
   ·rw[List.length_append,G,List.flatMap_append];have H:[y].flatMap Flat.cs=Flat.cs y:=by simp
    rw[H];exact C
   ·intro q f;rcases List.mem_append.1 f with f|f
    ·exact p.ok q f
    ·simp at f;subst f;exact Z
theorem E5 {cols:List Col}{zs:List Zone}{x:Node}{l:List Kd}{r:Nat}(g:x.ok)(e: ∀c∈cols,jP c.kind)(f: ∀k∈l,jP k.kind):jP (fo cols zs x (l.drop r)).2.kind:=by
 have d:jP 0:=by unfold jP;omega
 have hd:jP (default:Kd).kind:=d;rw[fo]
 split
 ·split
  ·exact hd
  ·rename_i hi;obtain⟨i,c,b,a,_⟩:=ED hi;simp only;rw[b,Int.toNat_natCast,x8 a];exact e c (List.mem_of_getElem? a)
 ·(repeat' split)<;>first|exact hd|exact tQ g f
theorem wu (w:World)(A:Option Addr)(n c:Nat)(es:List Node)(hx:In w A n c es)(A1:Option Addr)(n1 c1:Nat)(cols:List Col)(hc:In w A1 n1 c1 cols)(aO: ∀c∈cols,jP c.kind)(A2:Option Addr)(n2 c2:Nat)(zs:List Zone)(hz:In w A2 n2 c2 zs):
  Calls Tryz.prog 103 #[.slice A n c,.slice A1 n1 c1,.slice A2 n2 c2] w λe w'=>e=.returned (.tuple #[.int .i64 (ig es cols zs).2.kind,.bool (ig es cols zs).2.null,.int .i64 (ig es cols zs).1])/\Below w.heap.size w w':=by
 have aW:=hx.le;have aX:=hz.le;have aT:=Hm aO;clear aO;obtain⟨i0,hi,aE,aF,aG⟩:=info_parts Jf;go_enter Tryz.func103,Tryz.ntmps103;go_wp2_with fail;refine(CP _ _ _ _ es hx).mono ?_;rintro e w1 ⟨rfl,aA⟩;by_cases h0:¬gY es=0
 ·have U:Hl (ig es cols zs=(gY es,default)):=Hm (by have hk:gV es cols zs=gY es:=(by rw[gV,if_pos h0]);rw[ig,hk,if_pos h0]);have q:(gY es != 0)=true:=by simpa using h0
  clear h0;go_wp2
  go_ret3
  exact⟨by rw[U.o];rfl,aA⟩
 replace h0:gY es=0:=by omega
 have HE:=Hm (nC h0);have aL:=Hm h0;have a1:n<=256:=by have:=HE.o.1;rw[hx.len]at this;exact this
 rw[h0];clear h0;go_wp2_with fail;refine(mG _ _ _ _ cols (hc.b aA)).mono ?_;rintro e a ⟨rfl,rfl⟩;have aH:=aA;clear aA;by_cases h2:¬fq cols=0
 ·have U:Hl (ig es cols zs=(fq cols,default)):=Hm (by have hk:gV es cols zs=fq cols:=(by rw[gV,if_neg (by simp[aL.o]),if_pos h2]);rw[ig,hk,if_pos h2]);have q:(fq cols != 0)=true:=by simpa using h2
  clear h2;go_wp2
  go_ret3
  exact⟨by rw[U.o];rfl,aH⟩
 replace h2:fq cols=0:=by omega
 have HK:Hl (gV es cols zs=eH (λ_ z=>fD z) 0 zs):=Hm (by rw[gV,if_neg (by simp[aL.o]),if_neg (by simp[h2])];rfl);rw[h2];clear h2;go_wp2;go_loopw [11] (λi wr=> ∃k:Nat,k<=n2/\i=.int .i64 k/\eH (λ_ z=>fD z) 0 zs=eH (λ_ z=>fD z) k (zs.drop k)/\Below w.heap.size w wr) (λi _=>n2-(intOf i).toNat)
 case atStart=>exact⟨0,Nat.zero_le _,rfl,rfl,aH⟩
 case round=>
  obtain⟨k,hk,rfl,ax,hb⟩:=hrel;have HQ:=Hm ax;clear ax;by_cases aC:k<n2
  ·obtain⟨b,off,x,rfl,hB,HX,A',n',c',e0,e1,e2,e3,e4,e5⟩:=(hz.b hb).zone aC;go_wp2_with fail;refine(Ej _ A' n' c' x e3 e5).mono ?_;rintro e w3 ⟨rfl,aM⟩;have aN:=eu hb aM;clear aM e0 e1 e2;by_cases h3:fD x=0
   ·have U:Hl (eH (λ_ z=>fD z) 0 zs=eH (λ_ z=>fD z) (k+1) (zs.drop (k+1))):=Hm (by rw[HQ.o,HX.o];exact gG h3);rw[h3];clear h3;go_wp2;go_roundw
    case rel=>exact⟨k+1,Ho,by go_num,U.o,aN⟩
    case measure=>simp[intOf];omega
   ·have U:Hl (ig es cols zs=(fD x,default)):=Hm (by have hk:gV es cols zs=fD x:=(by rw[HK.o,HQ.o,HX.o];exact fI (f:=λ_ z=>fD z) (e:=fD x) rfl h3);rw[ig,hk,if_pos h3]);have q:(fD x != 0)=true:=by simpa using h3
    clear h3;go_wp2
    go_ret3
    exact⟨by rw[U.o];rfl,aN⟩
  ·have HT:Hl (ig es cols zs=fT cols zs [] es):=Hm (by have hk:gV es cols zs=0:=(by rw[HK.o,HQ.o,fG hz.len Ho];rfl);rw[ig,if_neg (by simp[hk])]);go_wp2;clear HQ aC aH;go_loopw [13,14] (λv i wr=> ∃(k d:Nat) (st:List Kd) (hs:List Int) (B:Option Addr) (cb:Nat),k<=n/\d<=k/\i=.int .i64 k/\v=.slice B d cb/\(fT cols zs [] es=fT cols zs st (es.drop k)/\hs.length=d/\fZ hs (es.drop k)=0)/\KSt 158 w wr st d B cb) (λ_ i _=>n-(intOf i).toNat)
   case atStart=>exact⟨0,0,[],[],none,0,Nat.zero_le _,Nat.zero_le _,rfl,rfl,⟨rfl,rfl,HE.o.2⟩,⟨Stk.nil_ _ _ _,rfl,hb⟩⟩
   case round=>
    clear hb;obtain⟨k,d,st,hs,B,cb,hk,aZ,rfl,rfl,ax,aR⟩:=hrel;have HQ:=Hm ax;have K:=Hm aR;clear ax aR;by_cases aC:k<n
    ·obtain⟨b,off,x,rfl,hB,HX,X,f1,Y,Z,f4,f5,aJ⟩:=(hx.b K.o.b).node aC;have al:=Hm aJ;have HV:Hl (fZ hs (x::es.drop (k+1))=0):=Hm (by rw[<-HX.o];exact HQ.o.2.2);obtain⟨m,r,aD,aQ,hm,a0,rfl,aP,aS⟩:=pF HV.o HQ.o.2.1;have HM:=Hm hm;have am:=Hm aQ;have ay:=Hm aP;have az:=Hm aS;have aw:Hl (jP (fo cols zs x (st.drop r)).2.kind):=Hm (E5 aJ aT.o K.o.stk.ok);clear hm aQ aP aS HV aJ;go_wp2_with fail;refine(pK x _).mono ?_;rintro e a ⟨rfl,ai⟩;rw[HM.o];have X:=eG ai hB X;have f1:=eG ai hB f1;have Y:=eG ai hB Y;have Z:=eG ai hB Z;have f4:=eG ai hB f4;have f5:=eG ai hB f5;have s:=Nat.lt_of_lt_of_le hB ai.size;have R:=Hm (K.o.keep ai);clear ai;have an:=hc.b R.o.b;have ao:=hz.b R.o.b;have r0:(0:Int)<=(r:Int):=by omega
     have r2:(r:Int)<=(r:Int)+(m:Int):=by omega
     obtain⟨⟨er,F,H⟩,aI⟩: ∃q,fo cols zs x (st.drop r)=q:=⟨_,rfl⟩;rw[aI]at aw;have ad:=Hm aI;clear aI;by_cases aB:er=0
     ·subst aB;rcases rW R.o.stk R.o.len with ⟨rfl,aq⟩|⟨aU,g,rfl,ap⟩
      ·have u:Below a.heap.size a (a.alloc (.cells #[.int .i64 0,.bool false] 158)).drew:=((IJ).alloc IK _).drew;have ac:Hl (In (a.alloc (.cells #[.int .i64 0,.bool false] 158)).drew B m 0 (st.drop r)):=Hm (by rw[List.drop_eq_nil_of_le (by rw[K.o.len];omega),aq];exact Sl.empty Ho (λ_=>rfl));have ae:Hl (In a.drew B m 0 (st.drop r)):=Hm (by rw[List.drop_eq_nil_of_le (by rw[K.o.len];omega),aq];exact Sl.empty Ho (λ_=>rfl));clear aq;have S:a.heap.size<(a.alloc (.cells #[.int .i64 0,.bool false] 158)).drew.heap.size:=by simp
       have J:b<(a.alloc (.cells #[.int .i64 0,.bool false] 158)).drew.heap.size:=by simp;omega
       have t:¬b=a.heap.size:=by omega
       have C:(a.alloc (.cells #[.int .i64 0,.bool false] 158)).drew.cell? ⟨a.heap.size,0,none⟩=some (.int .i64 0):=by simp[go_sem]
       have E:(a.alloc (.cells #[.int .i64 0,.bool false] 158)).drew.cell? ⟨a.heap.size,1,none⟩=some (.bool false):=by simp[go_sem]
       have F0:(a.alloc (.cells #[.int .i64 0,.bool false] 158)).drew.frozen? ⟨a.heap.size,0,none⟩=false:=by simp[go_sem]
       have F1:(a.alloc (.cells #[.int .i64 0,.bool false] 158)).drew.frozen? ⟨a.heap.size,1,none⟩=false:=by simp[go_sem]
       have d0:=eG u s X;have d1:=eG u s f1;have d2:=eG u s Y;have d3:=eG u s Z;have d4:=eG u s f4;have d5:=eG u s f5;go_wp2;go_region_held3 (λV=>V.cell? ⟨b,off+k*6,none⟩=some (.int .i64 x.op)/\V.cell? ⟨b,off+k*6+1,none⟩=some (.int .i64 x.value.kind)/\V.cell? ⟨b,off+k*6+2,none⟩=some (.int .i64 x.value.num)/\V.cell? ⟨b,off+k*6+3,none⟩=some (.string x.value.str)/\V.cell? ⟨b,off+k*6+4,none⟩=some (.string x.name)/\V.cell? ⟨b,off+k*6+5,none⟩=some (.int .i64 x.arity)) (first|exact⟨X,f1,Y,Z,f4,f5⟩|exact⟨L,M,N,O,P,Q⟩|exact⟨d0,d1,d2,d3,d4,d5⟩|exact⟨eD (eD L (.inl t)) (.inl t),eD (eD M (.inl t)) (.inl t),eD (eD N (.inl t)) (.inl t),eD (eD O (.inl t)) (.inl t),eD (eD P (.inl t)) (.inl t),eD (eD Q (.inl t)) (.inl t)⟩|exact⟨eG (b:=b) (eB (w:=h)) l L,eG (b:=b) (eB (w:=h)) l M,eG (b:=b) (eB (w:=h)) l N,eG (b:=b) (eB (w:=h)) l O,eG (b:=b) (eB (w:=h)) l P,eG (b:=b) (eB (w:=h)) l Q⟩|exact⟨eD (eD (eG (b:=b) (eB (w:=h)) l L) (.inl p)) (.inl p),eD (eD (eG (b:=b) (eB (w:=h)) l M) (.inl p)) (.inl p),eD (eD (eG (b:=b) (eB (w:=h)) l N) (.inl p)) (.inl p),eD (eD (eG (b:=b) (eB (w:=h)) l O) (.inl p)) (.inl p),eD (eD (eG (b:=b) (eB (w:=h)) l P) (.inl p)) (.inl p),eD (eD (eG (b:=b) (eB (w:=h)) l Q) (.inl p)) (.inl p)⟩) (first|(go_at_call 137;refine(oM x am.o al.o m HM.o _ _ _ (st.drop r) ac.o _ _ _ cols (an.b u) _ _ _ zs (ao.b u)).mono ?_;rintro e h ⟨rfl,j⟩;rw[ad.o];simp only[Kd.cells];have hQ:Hl (a.heap.size=a.heap.size):=Hm rfl;have L:=eG j J d0;have M:=eG j J d1;have N:=eG j J d2;have O:=eG j J d3;have P:=eG j J d4;have Q:=eG j J d5;have aj:=eG j S C;have ak:=eG j S E;have au:=((eO j).2 _ _ S).trans F0;have av:=((eO j).2 _ _ S).trans F1;have I:Below a.heap.size a h:=u.trans (j.mono u.size);have l:b<h.heap.size:=Nat.lt_of_lt_of_le s I.size;have p:¬b=h.heap.size:=Ho;clear j C E F0 F1)|(go_at_call 137;refine(oM x am.o al.o m HM.o _ _ _ (st.drop r) ae.o _ _ _ cols (an.b (IJ).drew) _ _ _ zs (ao.b (IJ).drew)).mono ?_;rintro e h ⟨rfl,j⟩;rw[ad.o];simp only[Kd.cells];have L:=eG (eF j) s X;have M:=eG (eF j) s f1;have N:=eG (eF j) s Y;have O:=eG (eF j) s Z;have P:=eG (eF j) s f4;have Q:=eG (eF j) s f5;have I:Below a.heap.size a h:=eF j;have l:b<h.heap.size:=Nat.lt_of_lt_of_le s I.size;have p:¬b=h.heap.size:=Ho;clear j C E F0 F1))
       ·obtain⟨D,T⟩: ∃D,D=h.alloc (.cells #[.int .i64 F,.bool H] 158):=⟨_,rfl⟩;have ah:Below a.heap.size a D:=by rw[T];exact I.alloc I.size _
        have C:D.cell? ⟨h.heap.size,0,none⟩=some (.int .i64 F):=by rw[T];simp[go_sem]
        have E:D.cell? ⟨h.heap.size,1,none⟩=some (.bool H):=by rw[T];simp[go_sem]
        rw[<-T];obtain⟨G,hG⟩: ∃G,h.heap.size=G:=⟨_,rfl⟩;rw[hG]at C E;rw[hG];clear T hG X f1 Y Z f4 f5 L M N O P Q d0 d1 d2 d3 d4 d5 ac ae I u S J l p;have U:Hl (fT cols zs [] es=fT cols zs (st.take r++[⟨F,H⟩]) (es.drop (k+1))):=Hm (by rw[HQ.o.1,HX.o,jM HM.o K.o.len (k:=⟨F,H⟩) ad.o]);have aa:=Hm (R.o.keep ah);have af:Hl (r<=st.length):=Hm (by rw[K.o.len];omega);have aK:w.heap.size<=D.heap.size:=aa.o.b.size;have W:G<D.heap.size:=lt_of_cell C;have r1:(r:Int)<=(r:Int):=by have h1:=K.o.stk.cap.1;have h2:=K.o.len;omega
        clear ah;go_wp2;go_region_held3 (λV=>V.cell? ⟨G,0,none⟩=some (.int .i64 F)/\V.cell? ⟨G,1,none⟩=some (.bool H)) (first|exact⟨C,E⟩|exact⟨eG ((IJ).drew.alloc IK _) W C,eG ((IJ).drew.alloc IK _) W E⟩|exact⟨eG ab ag (eG ((IJ).drew.alloc IK _) W C),eG ab ag (eG ((IJ).drew.alloc IK _) W E)⟩) (first|(refine l6 (α:=Kd) _ rfl (.tmp 75) (.tmp 77) 156 rfl w.heap.size 158 i0 _ 16 Tryz.underlying156 hi aE aF aG rfl (by decide) B r r st (aa.o.stk.keep ((IJ).drew.alloc IK _)) af.o rfl ⟨F,H⟩ aw.o D.heap.size rfl (gU _ _ _ _ rfl) Ho (by simp;omega) ?_;intro A' c' w7 ar ab;have ag:G<(World.alloc D.drew (.cells #[.int .i64 F,.bool H] 158)).heap.size:=(by simp;omega);have HP:Hl (KSt 158 w w7 (st.take r++[⟨F,H⟩]) (r+1) A' c'):=Hm ⟨ar,(by rw[List.length_append,List.length_take,Nat.min_eq_left af.o];rfl),(aa.o.b.drew.alloc (by simp;omega) _).trans (ab.mono (by simp;omega))⟩));go_wp2;go_roundw
        case rel=>exact⟨k+1,r+1,_,aD,A',c',Ho,Ho,by go_num,rfl,⟨U.o,ay.o,az.o⟩,HP.o⟩
        case measure=>simp[intOf];omega
       ·obtain⟨D,T⟩: ∃D,D=(h.setCell ⟨a.heap.size,0,none⟩ (.int .i64 F)).setCell ⟨a.heap.size,1,none⟩ (.bool H):=⟨_,rfl⟩;have ah:Below a.heap.size a D:=by rw[T];exact fO I IK _ _
        have C:D.cell? ⟨a.heap.size,0,none⟩=some (.int .i64 F):=by rw[T];exact gP aj ak 0 _ rfl
        have E:D.cell? ⟨a.heap.size,1,none⟩=some (.bool H):=by rw[T];exact gP aj ak 1 _ rfl
        rw[<-T];obtain⟨G,hG⟩: ∃G,a.heap.size=G:=⟨_,rfl⟩;rw[hG]at C E;rw[hG];clear T hG aj ak au av X f1 Y Z f4 f5 L M N O P Q d0 d1 d2 d3 d4 d5 ac ae I u S J l p;have U:Hl (fT cols zs [] es=fT cols zs (st.take r++[⟨F,H⟩]) (es.drop (k+1))):=Hm (by rw[HQ.o.1,HX.o,jM HM.o K.o.len (k:=⟨F,H⟩) ad.o]);have aa:=Hm (R.o.keep ah);have af:Hl (r<=st.length):=Hm (by rw[K.o.len];omega);have aK:w.heap.size<=D.heap.size:=aa.o.b.size;have W:G<D.heap.size:=lt_of_cell C;have r1:(r:Int)<=(r:Int):=by have h1:=K.o.stk.cap.1;have h2:=K.o.len;omega
        clear ah;go_wp2;go_region_held3 (λV=>V.cell? ⟨G,0,none⟩=some (.int .i64 F)/\V.cell? ⟨G,1,none⟩=some (.bool H)) (first|exact⟨C,E⟩|exact⟨eG ((IJ).drew.alloc IK _) W C,eG ((IJ).drew.alloc IK _) W E⟩|exact⟨eG ab ag (eG ((IJ).drew.alloc IK _) W C),eG ab ag (eG ((IJ).drew.alloc IK _) W E)⟩) (first|(refine l6 (α:=Kd) _ rfl (.tmp 75) (.tmp 77) 156 rfl w.heap.size 158 i0 _ 16 Tryz.underlying156 hi aE aF aG rfl (by decide) B r r st (aa.o.stk.keep ((IJ).drew.alloc IK _)) af.o rfl ⟨F,H⟩ aw.o D.heap.size rfl (gU _ _ _ _ rfl) Ho (by simp;omega) ?_;intro A' c' w7 ar ab;have ag:G<(World.alloc D.drew (.cells #[.int .i64 F,.bool H] 158)).heap.size:=(by simp;omega);have HP:Hl (KSt 158 w w7 (st.take r++[⟨F,H⟩]) (r+1) A' c'):=Hm ⟨ar,(by rw[List.length_append,List.length_take,Nat.min_eq_left af.o];rfl),(aa.o.b.drew.alloc (by simp;omega) _).trans (ab.mono (by simp;omega))⟩));go_wp2;go_roundw
        case rel=>exact⟨k+1,r+1,_,aD,A',c',Ho,Ho,by go_num,rfl,⟨U.o,ay.o,az.o⟩,HP.o⟩
        case measure=>simp[intOf];omega
      ·have u:Below a.heap.size a (a.alloc (.cells #[.int .i64 0,.bool false] 158)).drew:=((IJ).alloc IK _).drew;have ac:Hl (In (a.alloc (.cells #[.int .i64 0,.bool false] 158)).drew (some ⟨g,r*2,none⟩) m (cb-r) (st.drop r)):=Hm (ap.b u);have ae:Hl (In a.drew (some ⟨g,r*2,none⟩) m (cb-r) (st.drop r)):=Hm (ap.b (IJ).drew);clear ap;have S:a.heap.size<(a.alloc (.cells #[.int .i64 0,.bool false] 158)).drew.heap.size:=by simp
       have J:b<(a.alloc (.cells #[.int .i64 0,.bool false] 158)).drew.heap.size:=by simp;omega
       have t:¬b=a.heap.size:=by omega
       have C:(a.alloc (.cells #[.int .i64 0,.bool false] 158)).drew.cell? ⟨a.heap.size,0,none⟩=some (.int .i64 0):=by simp[go_sem]
       have E:(a.alloc (.cells #[.int .i64 0,.bool false] 158)).drew.cell? ⟨a.heap.size,1,none⟩=some (.bool false):=by simp[go_sem]
       have F0:(a.alloc (.cells #[.int .i64 0,.bool false] 158)).drew.frozen? ⟨a.heap.size,0,none⟩=false:=by simp[go_sem]
       have F1:(a.alloc (.cells #[.int .i64 0,.bool false] 158)).drew.frozen? ⟨a.heap.size,1,none⟩=false:=by simp[go_sem]
       have d0:=eG u s X;have d1:=eG u s f1;have d2:=eG u s Y;have d3:=eG u s Z;have d4:=eG u s f4;have d5:=eG u s f5;go_wp2;go_region_held3 (λV=>V.cell? ⟨b,off+k*6,none⟩=some (.int .i64 x.op)/\V.cell? ⟨b,off+k*6+1,none⟩=some (.int .i64 x.value.kind)/\V.cell? ⟨b,off+k*6+2,none⟩=some (.int .i64 x.value.num)/\V.cell? ⟨b,off+k*6+3,none⟩=some (.string x.value.str)/\V.cell? ⟨b,off+k*6+4,none⟩=some (.string x.name)/\V.cell? ⟨b,off+k*6+5,none⟩=some (.int .i64 x.arity)) (first|exact⟨X,f1,Y,Z,f4,f5⟩|exact⟨L,M,N,O,P,Q⟩|exact⟨d0,d1,d2,d3,d4,d5⟩|exact⟨eD (eD L (.inl t)) (.inl t),eD (eD M (.inl t)) (.inl t),eD (eD N (.inl t)) (.inl t),eD (eD O (.inl t)) (.inl t),eD (eD P (.inl t)) (.inl t),eD (eD Q (.inl t)) (.inl t)⟩|exact⟨eG (b:=b) (eB (w:=h)) l L,eG (b:=b) (eB (w:=h)) l M,eG (b:=b) (eB (w:=h)) l N,eG (b:=b) (eB (w:=h)) l O,eG (b:=b) (eB (w:=h)) l P,eG (b:=b) (eB (w:=h)) l Q⟩|exact⟨eD (eD (eG (b:=b) (eB (w:=h)) l L) (.inl p)) (.inl p),eD (eD (eG (b:=b) (eB (w:=h)) l M) (.inl p)) (.inl p),eD (eD (eG (b:=b) (eB (w:=h)) l N) (.inl p)) (.inl p),eD (eD (eG (b:=b) (eB (w:=h)) l O) (.inl p)) (.inl p),eD (eD (eG (b:=b) (eB (w:=h)) l P) (.inl p)) (.inl p),eD (eD (eG (b:=b) (eB (w:=h)) l Q) (.inl p)) (.inl p)⟩) (first|(go_at_call 137;refine(oM x am.o al.o m HM.o _ _ _ (st.drop r) ac.o _ _ _ cols (an.b u) _ _ _ zs (ao.b u)).mono ?_;rintro e h ⟨rfl,j⟩;rw[ad.o];simp only[Kd.cells];have hQ:Hl (a.heap.size=a.heap.size):=Hm rfl;have L:=eG j J d0;have M:=eG j J d1;have N:=eG j J d2;have O:=eG j J d3;have P:=eG j J d4;have Q:=eG j J d5;have aj:=eG j S C;have ak:=eG j S E;have au:=((eO j).2 _ _ S).trans F0;have av:=((eO j).2 _ _ S).trans F1;have I:Below a.heap.size a h:=u.trans (j.mono u.size);have l:b<h.heap.size:=Nat.lt_of_lt_of_le s I.size;have p:¬b=h.heap.size:=Ho;clear j C E F0 F1)|(go_at_call 137;refine(oM x am.o al.o m HM.o _ _ _ (st.drop r) ae.o _ _ _ cols (an.b (IJ).drew) _ _ _ zs (ao.b (IJ).drew)).mono ?_;rintro e h ⟨rfl,j⟩;rw[ad.o];simp only[Kd.cells];have L:=eG (eF j) s X;have M:=eG (eF j) s f1;have N:=eG (eF j) s Y;have O:=eG (eF j) s Z;have P:=eG (eF j) s f4;have Q:=eG (eF j) s f5;have I:Below a.heap.size a h:=eF j;have l:b<h.heap.size:=Nat.lt_of_lt_of_le s I.size;have p:¬b=h.heap.size:=Ho;clear j C E F0 F1))
       ·obtain⟨D,T⟩: ∃D,D=h.alloc (.cells #[.int .i64 F,.bool H] 158):=⟨_,rfl⟩;have ah:Below a.heap.size a D:=by rw[T];exact I.alloc I.size _
        have C:D.cell? ⟨h.heap.size,0,none⟩=some (.int .i64 F):=by rw[T];simp[go_sem]
        have E:D.cell? ⟨h.heap.size,1,none⟩=some (.bool H):=by rw[T];simp[go_sem]
        rw[<-T];obtain⟨G,hG⟩: ∃G,h.heap.size=G:=⟨_,rfl⟩;rw[hG]at C E;rw[hG];clear T hG X f1 Y Z f4 f5 L M N O P Q d0 d1 d2 d3 d4 d5 ac ae I u S J l p;have U:Hl (fT cols zs [] es=fT cols zs (st.take r++[⟨F,H⟩]) (es.drop (k+1))):=Hm (by rw[HQ.o.1,HX.o,jM HM.o K.o.len (k:=⟨F,H⟩) ad.o]);have aa:=Hm (R.o.keep ah);have af:Hl (r<=st.length):=Hm (by rw[K.o.len];omega);have aK:w.heap.size<=D.heap.size:=aa.o.b.size;have W:G<D.heap.size:=lt_of_cell C;have r1:(r:Int)<=(cb:Int):=by have h1:=K.o.stk.cap.1;have h2:=K.o.len;omega
        clear ah;go_wp2;go_region_held3 (λV=>V.cell? ⟨G,0,none⟩=some (.int .i64 F)/\V.cell? ⟨G,1,none⟩=some (.bool H)) (first|exact⟨C,E⟩|exact⟨eG ((IJ).drew.alloc IK _) W C,eG ((IJ).drew.alloc IK _) W E⟩|exact⟨eG ab ag (eG ((IJ).drew.alloc IK _) W C),eG ab ag (eG ((IJ).drew.alloc IK _) W E)⟩) (first|(refine l6 (α:=Kd) _ rfl (.tmp 75) (.tmp 77) 156 rfl w.heap.size 158 i0 _ 16 Tryz.underlying156 hi aE aF aG rfl (by decide) (some ⟨g,0,none⟩) cb r st (aa.o.stk.keep ((IJ).drew.alloc IK _)) af.o rfl ⟨F,H⟩ aw.o D.heap.size rfl (gU _ _ _ _ rfl) Ho (by simp;omega) ?_;intro A' c' w7 ar ab;have ag:G<(World.alloc D.drew (.cells #[.int .i64 F,.bool H] 158)).heap.size:=(by simp;omega);have HP:Hl (KSt 158 w w7 (st.take r++[⟨F,H⟩]) (r+1) A' c'):=Hm ⟨ar,(by rw[List.length_append,List.length_take,Nat.min_eq_left af.o];rfl),(aa.o.b.drew.alloc (by simp;omega) _).trans (ab.mono (by simp;omega))⟩));go_wp2;go_roundw
        case rel=>exact⟨k+1,r+1,_,aD,A',c',Ho,Ho,by go_num,rfl,⟨U.o,ay.o,az.o⟩,HP.o⟩
        case measure=>simp[intOf];omega
       ·obtain⟨D,T⟩: ∃D,D=(h.setCell ⟨a.heap.size,0,none⟩ (.int .i64 F)).setCell ⟨a.heap.size,1,none⟩ (.bool H):=⟨_,rfl⟩;have ah:Below a.heap.size a D:=by rw[T];exact fO I IK _ _
        have C:D.cell? ⟨a.heap.size,0,none⟩=some (.int .i64 F):=by rw[T];exact gP aj ak 0 _ rfl
        have E:D.cell? ⟨a.heap.size,1,none⟩=some (.bool H):=by rw[T];exact gP aj ak 1 _ rfl
        rw[<-T];obtain⟨G,hG⟩: ∃G,a.heap.size=G:=⟨_,rfl⟩;rw[hG]at C E;rw[hG];clear T hG aj ak au av X f1 Y Z f4 f5 L M N O P Q d0 d1 d2 d3 d4 d5 ac ae I u S J l p;have U:Hl (fT cols zs [] es=fT cols zs (st.take r++[⟨F,H⟩]) (es.drop (k+1))):=Hm (by rw[HQ.o.1,HX.o,jM HM.o K.o.len (k:=⟨F,H⟩) ad.o]);have aa:=Hm (R.o.keep ah);have af:Hl (r<=st.length):=Hm (by rw[K.o.len];omega);have aK:w.heap.size<=D.heap.size:=aa.o.b.size;have W:G<D.heap.size:=lt_of_cell C;have r1:(r:Int)<=(cb:Int):=by have h1:=K.o.stk.cap.1;have h2:=K.o.len;omega
        clear ah;go_wp2;go_region_held3 (λV=>V.cell? ⟨G,0,none⟩=some (.int .i64 F)/\V.cell? ⟨G,1,none⟩=some (.bool H)) (first|exact⟨C,E⟩|exact⟨eG ((IJ).drew.alloc IK _) W C,eG ((IJ).drew.alloc IK _) W E⟩|exact⟨eG ab ag (eG ((IJ).drew.alloc IK _) W C),eG ab ag (eG ((IJ).drew.alloc IK _) W E)⟩) (first|(refine l6 (α:=Kd) _ rfl (.tmp 75) (.tmp 77) 156 rfl w.heap.size 158 i0 _ 16 Tryz.underlying156 hi aE aF aG rfl (by decide) (some ⟨g,0,none⟩) cb r st (aa.o.stk.keep ((IJ).drew.alloc IK _)) af.o rfl ⟨F,H⟩ aw.o D.heap.size rfl (gU _ _ _ _ rfl) Ho (by simp;omega) ?_;intro A' c' w7 ar ab;have ag:G<(World.alloc D.drew (.cells #[.int .i64 F,.bool H] 158)).heap.size:=(by simp;omega);have HP:Hl (KSt 158 w w7 (st.take r++[⟨F,H⟩]) (r+1) A' c'):=Hm ⟨ar,(by rw[List.length_append,List.length_take,Nat.min_eq_left af.o];rfl),(aa.o.b.drew.alloc (by simp;omega) _).trans (ab.mono (by simp;omega))⟩));go_wp2;go_roundw
        case rel=>exact⟨k+1,r+1,_,aD,A',c',Ho,Ho,by go_num,rfl,⟨U.o,ay.o,az.o⟩,HP.o⟩
        case measure=>simp[intOf];omega
     ·have q2:(er != 0)=true:=by simpa using aB
      have U:Hl (ig es cols zs=(er,default)):=Hm (by rw[HT.o,HQ.o.1,HX.o,jK HM.o K.o.len (e:=er) (by rw[ad.o]) aB]);clear aB;rcases rW R.o.stk R.o.len with ⟨rfl,aq⟩|⟨aU,g,rfl,ap⟩
      ·have u:Below a.heap.size a (a.alloc (.cells #[.int .i64 0,.bool false] 158)).drew:=((IJ).alloc IK _).drew;have ac:Hl (In (a.alloc (.cells #[.int .i64 0,.bool false] 158)).drew B m 0 (st.drop r)):=Hm (by rw[List.drop_eq_nil_of_le (by rw[K.o.len];omega),aq];exact Sl.empty Ho (λ_=>rfl));have ae:Hl (In a.drew B m 0 (st.drop r)):=Hm (by rw[List.drop_eq_nil_of_le (by rw[K.o.len];omega),aq];exact Sl.empty Ho (λ_=>rfl));clear aq;have S:a.heap.size<(a.alloc (.cells #[.int .i64 0,.bool false] 158)).drew.heap.size:=by simp
       have J:b<(a.alloc (.cells #[.int .i64 0,.bool false] 158)).drew.heap.size:=by simp;omega
       have t:¬b=a.heap.size:=by omega
       have C:(a.alloc (.cells #[.int .i64 0,.bool false] 158)).drew.cell? ⟨a.heap.size,0,none⟩=some (.int .i64 0):=by simp[go_sem]
       have E:(a.alloc (.cells #[.int .i64 0,.bool false] 158)).drew.cell? ⟨a.heap.size,1,none⟩=some (.bool false):=by simp[go_sem]
       have F0:(a.alloc (.cells #[.int .i64 0,.bool false] 158)).drew.frozen? ⟨a.heap.size,0,none⟩=false:=by simp[go_sem]
       have F1:(a.alloc (.cells #[.int .i64 0,.bool false] 158)).drew.frozen? ⟨a.heap.size,1,none⟩=false:=by simp[go_sem]
       have d0:=eG u s X;have d1:=eG u s f1;have d2:=eG u s Y;have d3:=eG u s Z;have d4:=eG u s f4;have d5:=eG u s f5;go_wp2;go_region_held3 (λV=>V.cell? ⟨b,off+k*6,none⟩=some (.int .i64 x.op)/\V.cell? ⟨b,off+k*6+1,none⟩=some (.int .i64 x.value.kind)/\V.cell? ⟨b,off+k*6+2,none⟩=some (.int .i64 x.value.num)/\V.cell? ⟨b,off+k*6+3,none⟩=some (.string x.value.str)/\V.cell? ⟨b,off+k*6+4,none⟩=some (.string x.name)/\V.cell? ⟨b,off+k*6+5,none⟩=some (.int .i64 x.arity)) (first|exact⟨X,f1,Y,Z,f4,f5⟩|exact⟨L,M,N,O,P,Q⟩|exact⟨d0,d1,d2,d3,d4,d5⟩|exact⟨eD (eD L (.inl t)) (.inl t),eD (eD M (.inl t)) (.inl t),eD (eD N (.inl t)) (.inl t),eD (eD O (.inl t)) (.inl t),eD (eD P (.inl t)) (.inl t),eD (eD Q (.inl t)) (.inl t)⟩|exact⟨eG (b:=b) (eB (w:=h)) l L,eG (b:=b) (eB (w:=h)) l M,eG (b:=b) (eB (w:=h)) l N,eG (b:=b) (eB (w:=h)) l O,eG (b:=b) (eB (w:=h)) l P,eG (b:=b) (eB (w:=h)) l Q⟩|exact⟨eD (eD (eG (b:=b) (eB (w:=h)) l L) (.inl p)) (.inl p),eD (eD (eG (b:=b) (eB (w:=h)) l M) (.inl p)) (.inl p),eD (eD (eG (b:=b) (eB (w:=h)) l N) (.inl p)) (.inl p),eD (eD (eG (b:=b) (eB (w:=h)) l O) (.inl p)) (.inl p),eD (eD (eG (b:=b) (eB (w:=h)) l P) (.inl p)) (.inl p),eD (eD (eG (b:=b) (eB (w:=h)) l Q) (.inl p)) (.inl p)⟩) (first|(go_at_call 137;refine(oM x am.o al.o m HM.o _ _ _ (st.drop r) ac.o _ _ _ cols (an.b u) _ _ _ zs (ao.b u)).mono ?_;rintro e h ⟨rfl,j⟩;rw[ad.o];simp only[Kd.cells];have hQ:Hl (a.heap.size=a.heap.size):=Hm rfl;have L:=eG j J d0;have M:=eG j J d1;have N:=eG j J d2;have O:=eG j J d3;have P:=eG j J d4;have Q:=eG j J d5;have aj:=eG j S C;have ak:=eG j S E;have au:=((eO j).2 _ _ S).trans F0;have av:=((eO j).2 _ _ S).trans F1;have I:Below a.heap.size a h:=u.trans (j.mono u.size);have l:b<h.heap.size:=Nat.lt_of_lt_of_le s I.size;have p:¬b=h.heap.size:=Ho;clear j C E F0 F1)|(go_at_call 137;refine(oM x am.o al.o m HM.o _ _ _ (st.drop r) ae.o _ _ _ cols (an.b (IJ).drew) _ _ _ zs (ao.b (IJ).drew)).mono ?_;rintro e h ⟨rfl,j⟩;rw[ad.o];simp only[Kd.cells];have L:=eG (eF j) s X;have M:=eG (eF j) s f1;have N:=eG (eF j) s Y;have O:=eG (eF j) s Z;have P:=eG (eF j) s f4;have Q:=eG (eF j) s f5;have I:Below a.heap.size a h:=eF j;have l:b<h.heap.size:=Nat.lt_of_lt_of_le s I.size;have p:¬b=h.heap.size:=Ho;clear j C E F0 F1))
       ·go_wp2
        go_ret3
        exact⟨by rw[U.o];rfl,(R.o.b.trans (I.mono R.o.b.size)).alloc (R.o.b.trans (I.mono R.o.b.size)).size _⟩
       ·go_wp2
        go_ret3
        exact⟨by rw[U.o];rfl,fO (R.o.b.trans (I.mono R.o.b.size)) R.o.b.size _ _⟩
      ·have u:Below a.heap.size a (a.alloc (.cells #[.int .i64 0,.bool false] 158)).drew:=((IJ).alloc IK _).drew;have ac:Hl (In (a.alloc (.cells #[.int .i64 0,.bool false] 158)).drew (some ⟨g,r*2,none⟩) m (cb-r) (st.drop r)):=Hm (ap.b u);have ae:Hl (In a.drew (some ⟨g,r*2,none⟩) m (cb-r) (st.drop r)):=Hm (ap.b (IJ).drew);clear ap;have S:a.heap.size<(a.alloc (.cells #[.int .i64 0,.bool false] 158)).drew.heap.size:=by simp
       have J:b<(a.alloc (.cells #[.int .i64 0,.bool false] 158)).drew.heap.size:=by simp;omega
       have t:¬b=a.heap.size:=by omega
       have C:(a.alloc (.cells #[.int .i64 0,.bool false] 158)).drew.cell? ⟨a.heap.size,0,none⟩=some (.int .i64 0):=by simp[go_sem]
       have E:(a.alloc (.cells #[.int .i64 0,.bool false] 158)).drew.cell? ⟨a.heap.size,1,none⟩=some (.bool false):=by simp[go_sem]
       have F0:(a.alloc (.cells #[.int .i64 0,.bool false] 158)).drew.frozen? ⟨a.heap.size,0,none⟩=false:=by simp[go_sem]
       have F1:(a.alloc (.cells #[.int .i64 0,.bool false] 158)).drew.frozen? ⟨a.heap.size,1,none⟩=false:=by simp[go_sem]
       have d0:=eG u s X;have d1:=eG u s f1;have d2:=eG u s Y;have d3:=eG u s Z;have d4:=eG u s f4;have d5:=eG u s f5;go_wp2;go_region_held3 (λV=>V.cell? ⟨b,off+k*6,none⟩=some (.int .i64 x.op)/\V.cell? ⟨b,off+k*6+1,none⟩=some (.int .i64 x.value.kind)/\V.cell? ⟨b,off+k*6+2,none⟩=some (.int .i64 x.value.num)/\V.cell? ⟨b,off+k*6+3,none⟩=some (.string x.value.str)/\V.cell? ⟨b,off+k*6+4,none⟩=some (.string x.name)/\V.cell? ⟨b,off+k*6+5,none⟩=some (.int .i64 x.arity)) (first|exact⟨X,f1,Y,Z,f4,f5⟩|exact⟨L,M,N,O,P,Q⟩|exact⟨d0,d1,d2,d3,d4,d5⟩|exact⟨eD (eD L (.inl t)) (.inl t),eD (eD M (.inl t)) (.inl t),eD (eD N (.inl t)) (.inl t),eD (eD O (.inl t)) (.inl t),eD (eD P (.inl t)) (.inl t),eD (eD Q (.inl t)) (.inl t)⟩|exact⟨eG (b:=b) (eB (w:=h)) l L,eG (b:=b) (eB (w:=h)) l M,eG (b:=b) (eB (w:=h)) l N,eG (b:=b) (eB (w:=h)) l O,eG (b:=b) (eB (w:=h)) l P,eG (b:=b) (eB (w:=h)) l Q⟩|exact⟨eD (eD (eG (b:=b) (eB (w:=h)) l L) (.inl p)) (.inl p),eD (eD (eG (b:=b) (eB (w:=h)) l M) (.inl p)) (.inl p),eD (eD (eG (b:=b) (eB (w:=h)) l N) (.inl p)) (.inl p),eD (eD (eG (b:=b) (eB (w:=h)) l O) (.inl p)) (.inl p),eD (eD (eG (b:=b) (eB (w:=h)) l P) (.inl p)) (.inl p),eD (eD (eG (b:=b) (eB (w:=h)) l Q) (.inl p)) (.inl p)⟩) (first|(go_at_call 137;refine(oM x am.o al.o m HM.o _ _ _ (st.drop r) ac.o _ _ _ cols (an.b u) _ _ _ zs (ao.b u)).mono ?_;rintro e h ⟨rfl,j⟩;rw[ad.o];simp only[Kd.cells];have hQ:Hl (a.heap.size=a.heap.size):=Hm rfl;have L:=eG j J d0;have M:=eG j J d1;have N:=eG j J d2;have O:=eG j J d3;have P:=eG j J d4;have Q:=eG j J d5;have aj:=eG j S C;have ak:=eG j S E;have au:=((eO j).2 _ _ S).trans F0;have av:=((eO j).2 _ _ S).trans F1;have I:Below a.heap.size a h:=u.trans (j.mono u.size);have l:b<h.heap.size:=Nat.lt_of_lt_of_le s I.size;have p:¬b=h.heap.size:=Ho;clear j C E F0 F1)|(go_at_call 137;refine(oM x am.o al.o m HM.o _ _ _ (st.drop r) ae.o _ _ _ cols (an.b (IJ).drew) _ _ _ zs (ao.b (IJ).drew)).mono ?_;rintro e h ⟨rfl,j⟩;rw[ad.o];simp only[Kd.cells];have L:=eG (eF j) s X;have M:=eG (eF j) s f1;have N:=eG (eF j) s Y;have O:=eG (eF j) s Z;have P:=eG (eF j) s f4;have Q:=eG (eF j) s f5;have I:Below a.heap.size a h:=eF j;have l:b<h.heap.size:=Nat.lt_of_lt_of_le s I.size;have p:¬b=h.heap.size:=Ho;clear j C E F0 F1))
       ·go_wp2
        go_ret3
        exact⟨by rw[U.o];rfl,(R.o.b.trans (I.mono R.o.b.size)).alloc (R.o.b.trans (I.mono R.o.b.size)).size _⟩
       ·go_wp2
        go_ret3
        exact⟨by rw[U.o];rfl,fO (R.o.b.trans (I.mono R.o.b.size)) R.o.b.size _ _⟩
    ·have HX:=Hm (fG hx.len (show n<=k by omega));have aV:d=1:=pE (by rw[<-HX.o];exact HQ.o.2.2) HQ.o.2.1;subst aV;have ac:Hl (In wr B 1 cb st):=Hm (by have:=K.o.stk.inn;rw[K.o.len]at this;exact this);obtain⟨b3,a2,y,rfl,aY,HY,y0,y1,y2⟩:=ac.o.kd (show 0<1 by omega);simp only[Nat.zero_mul,Nat.add_zero]at y0 y1;have HR:Hl (ig es cols zs=(0,y)):=Hm (by
      rw[HT.o,HQ.o.1,HX.o,fT];have:=HY.o;rw[List.drop_zero]at this;rw[this];rfl)
     have k0:(0:Int)<(1:Int):=by omega
     go_wp2;go_quiet (fail);go_wp2
     go_ret3
     exact⟨by rw[HR.o];rfl,below_drewN K.o.b _⟩
end Go.Proofs.YthnelebakkggjaaGreatDoor
