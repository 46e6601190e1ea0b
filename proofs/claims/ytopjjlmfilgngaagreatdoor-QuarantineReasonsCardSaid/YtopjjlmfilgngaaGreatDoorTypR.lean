/-
  warehouseref9.Type: it returns typeS. (Printed by gen_typeR.py.)
-/
import Derived.Deep.RegionLawGrows
import Derived.Test.YtopjjlmfilgngaaGreatDoorGbd
namespace Go.Proofs.YtopjjlmfilgngaaGreatDoor
set_option maxHeartbeats 40000000
set_option maxRecDepth 100000
open Go.RowKit
set_option linter.unusedSimpArgs false
set_option linter.unusedVariables false
theorem Lb:(Tryz.prog.info? 170).map (λi=>(i.zero,i.size,i.bytes))=some (some (.agg #[.int .i64 0,.bool false]),2,16):=by kernel_rfl
theorem oU (x:Node)(v:shaped x=true)(r:x.ok)(m:Nat)(s:arity x.op x.arity=(m:Int))(w:World)(A:Option Addr)(c:Nat)(xs:List Kd)(j:In w A m c xs)(d:Option Addr)(f c1:Nat)(cols:List Col)(i:In w d f c1 cols)(A2:Option Addr)(n2 c2:Nat)(zs:List Zone)(k:In w A2 n2 c2 zs):
  Calls Tryz.prog 132 #[.agg x.cells.toArray,.slice A m c,.slice d f c1,.slice A2 n2 c2] w λe w'=>e=.returned (.tuple #[.agg (iA cols zs x xs).2.cells.toArray,.int .i64 (iA cols zs x xs).1])/\Below w.heap.size w w':=by
 have u:=r.2.2.2.2;obtain⟨a,⟨kd,l,st⟩,nm,g⟩:=x;simp only[Fq]at s u;clear v r;by_cases t:a=1
 ·subst t;exact O4 kd l g st nm w d f c1 cols i A2 n2 c2 zs k A m c xs
 have e:m=2:=by
  have h:a=12\/a=13:=by omega
  rcases h with rfl|rfl<;>(simp[arity]at s;omega)
 subst e;obtain⟨⟨n,o⟩,⟨p,q⟩,b,off,rfl,rfl⟩:=j.len2;cases y:(gM a ⟨n,o⟩ ⟨p,q⟩).2
 ·exact EH a kd l g st nm w d f c1 cols i A2 n2 c2 zs k b off c n o p q j (by omega)
 ·exact EH a kd l g st nm w d f c1 cols i A2 n2 c2 zs k b off c n o p q j (by omega)
theorem ma {α:Type}[Flat α]{P:Program}(w:World){ab:Array Oper}{o:Oper}{a:Act}{K:Act->World->Prop}{Q:Exit->Act->World->Prop}{E:Prop}(R:o.guard=none)(s x:Operand)(t:TypeId)(U:o.op=.call {callee:=.builtin .append,args:= #[s,x],argTypes:= #[t,t]})(B:Nat)(e:TypeId)(i:TypeInfo)(z:Value)(bytes:Nat)(X:P.underlying t=some (.slice e))(hi:P.info? e=some i)(hz:i.zero=some z)(W:i.size=Rep.size α)(N:i.bytes=bytes)(aa:z.cells.size=Rep.size α)(M:bytes<=256)(A:Option Addr)(c k:Nat)(xs:List α)(V:Stk B w e A c xs)(T:k<=xs.length)(hs:a.eval s=.slice A k k)(y:α)(Z:Flat.ok y)(b:Nat)(Y:a.eval x=.slice (some ⟨b,0,none⟩) 1 1)(O:GY w b y)(hm:k<=1048576)(D:B<=w.heap.size)(h: ∀A' c' w',Stk B w' e A' c' (xs.take k++[y])->Below w.heap.size w w'->K (a.put o.dst (.slice A' (k+1) c')) w'):
  if Region.wanted o (yielded ab a.tmps)=true then Oper.wp P o a w K Q else E:=by
 have p:=V.take T;have G:(xs.take k).length=k:=by rw[List.length_take];omega
 refine step_append_grows (P:=P) (w:=w) R s x t U e i z (Rep.size α) bytes X hi hz W N aa Flat.pos A k k ((xs.take k).flatMap Flat.cs) hs (λd=>by have:=p.none_ d;omega) (by rw[oO,G]) ?_
  ⟨b,0,none⟩ 1 1 (Flat.cs y) Y (by rw[Flat.cs_len];omega) (λj u l=>by rw[mE,Nat.zero_add];exact O j u l) (Flat.cs_one y) (by omega) (by simp only[maxLen];omega) ?_ ?_
 ·intro ad d j u l;rcases p.own.2 with ⟨m,_⟩|⟨g,cap,v,n,D,S,h4,J,h6,L⟩
  ·injection m with m;subst m;cases d
  ·injection n with n;subst n;injection d with d;subst d;rw[mE,Nat.zero_add,cell_of_row w g j v e (0,0) S,<-Array.getElem?_toList];rw[<-L,List.getElem?_take]at l
   split at l
   ·exact l
   ·cases l
 ·have:(k+1)*bytes<=1048577*256:=Nat.mul_le_mul (by omega) M;omega
 ·intro v' w1 I m;have hb:Below w.heap.size w w1:=(Below.refl w.heap.size w).grown m (Nat.le_refl _) (λg F=>by cases F);have C:=Dk I D;rcases C.2 with ⟨_,J⟩|⟨g,cap,v,n,F,r⟩
  ·omega
  ·subst n;refine h _ _ _ ⟨?_,?_⟩ hb
   ·rw[List.length_append,G,List.flatMap_append];have H:[y].flatMap Flat.cs=Flat.cs y:=by simp
    rw[H];exact C
   ·intro q f;rcases List.mem_append.1 f with f|f
    ·exact p.ok q f
    ·simp at f;subst f;exact Z
theorem Gi {cols:List Col}{zs:List Zone}{x:Node}{l:List Kd}{r:Nat}(g:x.ok)(e: ∀c∈cols,jU c.kind)(f: ∀k∈l,jU k.kind):jU (iA cols zs x (l.drop r)).2.kind:=by
 have d:jU 0:=by unfold jU;omega
 have hd:jU (default:Kd).kind:=d;rw[iA]
 split
 ·split
  ·exact hd
  ·rename_i hi;obtain⟨i,c,b,a,_⟩:=Fz hi;simp only;rw[b,Int.toNat_natCast,yz a];exact e c (List.mem_of_getElem? a)
 ·(repeat' split)<;>first|exact hd|exact uj g f
theorem wP (w:World)(A:Option Addr)(n c:Nat)(es:List Node)(hx:In w A n c es)(A1:Option Addr)(n1 c1:Nat)(cols:List Col)(hc:In w A1 n1 c1 cols)(aO: ∀c∈cols,jU c.kind)(A2:Option Addr)(n2 c2:Nat)(zs:List Zone)(hz:In w A2 n2 c2 zs):
  Calls Tryz.prog 92 #[.slice A n c,.slice A1 n1 c1,.slice A2 n2 c2] w λe w'=>e=.returned (.tuple #[.int .i64 (iX es cols zs).2.kind,.bool (iX es cols zs).2.null,.int .i64 (iX es cols zs).1])/\Below w.heap.size w w':=by
 have aW:=hx.le;have aX:=hz.le;have aT:=Hm aO;clear aO;obtain⟨i0,hi,aE,aF,aG⟩:=info_parts Lb;go_enter Tryz.func92,Tryz.ntmps92;go_wp2_with fail;refine(Ef _ _ _ _ es hx).mono ?_;rintro e w1 ⟨rfl,aA⟩;by_cases h0:¬iN es=0
 ·have U:Hl (iX es cols zs=(iN es,default)):=Hm (by have hk:iK es cols zs=iN es:=(by rw[iK,if_pos h0]);rw[iX,hk,if_pos h0]);have q:(iN es != 0)=true:=by simpa using h0
  clear h0;go_wp2
  go_ret3
  exact⟨by rw[U.o];rfl,aA⟩
 replace h0:iN es=0:=by omega
 have HE:=Hm (nL h0);have aL:=Hm h0;have a1:n<=256:=by have:=HE.o.1;rw[hx.len]at this;exact this
 rw[h0];clear h0;go_wp2_with fail;refine(mJ _ _ _ _ cols (hc.below aA)).mono ?_;rintro e a ⟨rfl,rfl⟩;have aH:=aA;clear aA;by_cases h2:¬gu cols=0
 ·have U:Hl (iX es cols zs=(gu cols,default)):=Hm (by have hk:iK es cols zs=gu cols:=(by rw[iK,if_neg (by simp[aL.o]),if_pos h2]);rw[iX,hk,if_pos h2]);have q:(gu cols != 0)=true:=by simpa using h2
  clear h2;go_wp2
  go_ret3
  exact⟨by rw[U.o];rfl,aH⟩
 replace h2:gu cols=0:=by omega
 have HK:Hl (iK es cols zs=fQ (λ_ z=>gT z) 0 zs):=Hm (by rw[iK,if_neg (by simp[aL.o]),if_neg (by simp[h2])];rfl);rw[h2];clear h2;go_wp2;go_loopw [11] (λi wr=> ∃k:Nat,k<=n2/\i=.int .i64 k/\fQ (λ_ z=>gT z) 0 zs=fQ (λ_ z=>gT z) k (zs.drop k)/\Below w.heap.size w wr) (λi _=>n2-(intOf i).toNat)
 case atStart=>exact⟨0,Nat.zero_le _,rfl,rfl,aH⟩
 case round=>
  obtain⟨k,hk,rfl,ax,hb⟩:=hrel;have HQ:=Hm ax;clear ax;by_cases aC:k<n2
  ·obtain⟨b,off,x,rfl,hB,HX,A',n',c',e0,e1,e2,e3,e4,e5⟩:=(hz.below hb).zone aC;go_wp2_with fail;refine(Mq _ A' n' c' x e3 e5).mono ?_;rintro e w3 ⟨rfl,aM⟩;have aN:=fH hb aM;clear aM e0 e1 e2;by_cases h3:gT x=0
   ·have U:Hl (fQ (λ_ z=>gT z) 0 zs=fQ (λ_ z=>gT z) (k+1) (zs.drop (k+1))):=Hm (by rw[HQ.o,HX.o];exact ig h3);rw[h3];clear h3;go_wp2;go_roundw
    case rel=>exact⟨k+1,by omega,by go_num,U.o,aN⟩
    case measure=>simp[intOf];omega
   ·have U:Hl (iX es cols zs=(gT x,default)):=Hm (by have hk:iK es cols zs=gT x:=(by rw[HK.o,HQ.o,HX.o];exact gL (f:=λ_ z=>gT z) (e:=gT x) rfl h3);rw[iX,hk,if_pos h3]);have q:(gT x != 0)=true:=by simpa using h3
    clear h3;go_wp2
    go_ret3
    exact⟨by rw[U.o];rfl,aN⟩
  ·have HT:Hl (iX es cols zs=gU cols zs [] es):=Hm (by have hk:iK es cols zs=0:=(by rw[HK.o,HQ.o,gG hz.len (by omega)];rfl);rw[iX,if_neg (by simp[hk])]);go_wp2;clear HQ aC aH;go_loopw [13,14] (λv i wr=> ∃(k d:Nat) (st:List Kd) (hs:List Int) (B:Option Addr) (cb:Nat),k<=n/\d<=k/\i=.int .i64 k/\v=.slice B d cb/\(gU cols zs [] es=gU cols zs st (es.drop k)/\hs.length=d/\gX hs (es.drop k)=0)/\KSt 170 w wr st d B cb) (λ_ i _=>n-(intOf i).toNat)
   case atStart=>exact⟨0,0,[],[],none,0,Nat.zero_le _,Nat.zero_le _,rfl,rfl,⟨rfl,rfl,HE.o.2⟩,⟨Stk.nil_ _ _ _,rfl,hb⟩⟩
   case round=>
    clear hb;obtain⟨k,d,st,hs,B,cb,hk,aZ,rfl,rfl,ax,aR⟩:=hrel;have HQ:=Hm ax;have K:=Hm aR;clear ax aR;by_cases aC:k<n
    ·obtain⟨b,off,x,rfl,hB,HX,X,f1,Y,Z,f4,f5,aJ⟩:=(hx.below K.o.below).node aC;have al:=Hm aJ;have HV:Hl (gX hs (x::es.drop (k+1))=0):=Hm (by rw[<-HX.o];exact HQ.o.2.2);obtain⟨m,r,aD,aQ,hm,a0,rfl,aP,aS⟩:=pF HV.o HQ.o.2.1;have HM:=Hm hm;have am:=Hm aQ;have ay:=Hm aP;have az:=Hm aS;have aw:Hl (jU (iA cols zs x (st.drop r)).2.kind):=Hm (Gi aJ aT.o K.o.stk.ok);clear hm aQ aP aS HV aJ;go_wp2_with fail;refine(pM x _).mono ?_;rintro e a ⟨rfl,ai⟩;rw[HM.o];have X:=fO ai hB X;have f1:=fO ai hB f1;have Y:=fO ai hB Y;have Z:=fO ai hB Z;have f4:=fO ai hB f4;have f5:=fO ai hB f5;have s:=Nat.lt_of_lt_of_le hB ai.size;have R:=Hm (K.o.keep ai);clear ai;have an:=hc.below R.o.below;have ao:=hz.below R.o.below;have r0:(0:Int)<=(r:Int):=by omega
     have r2:(r:Int)<=(r:Int)+(m:Int):=by omega
     obtain⟨⟨er,F,H⟩,aI⟩: ∃q,iA cols zs x (st.drop r)=q:=⟨_,rfl⟩;rw[aI]at aw;have ad:=Hm aI;clear aI;by_cases aB:er=0
     ·subst aB;rcases sI R.o.stk R.o.len with ⟨rfl,aq⟩|⟨aU,g,rfl,ap⟩
      ·have u:Below a.heap.size a (a.alloc (.cells #[.int .i64 0,.bool false] 170)).drew:=((Below.refl _ _).alloc (Nat.le_refl _) _).drew;have ac:Hl (In (a.alloc (.cells #[.int .i64 0,.bool false] 170)).drew B m 0 (st.drop r)):=Hm (by rw[List.drop_eq_nil_of_le (by rw[K.o.len];omega),aq];exact Sl.empty (by omega) (λ_=>rfl));have ae:Hl (In a.drew B m 0 (st.drop r)):=Hm (by rw[List.drop_eq_nil_of_le (by rw[K.o.len];omega),aq];exact Sl.empty (by omega) (λ_=>rfl));clear aq;have S:a.heap.size<(a.alloc (.cells #[.int .i64 0,.bool false] 170)).drew.heap.size:=by simp
       have J:b<(a.alloc (.cells #[.int .i64 0,.bool false] 170)).drew.heap.size:=by simp;omega
       have t:¬b=a.heap.size:=by omega
       have C:(a.alloc (.cells #[.int .i64 0,.bool false] 170)).drew.cell? ⟨a.heap.size,0,none⟩=some (.int .i64 0):=by simp[go_sem]
       have E:(a.alloc (.cells #[.int .i64 0,.bool false] 170)).drew.cell? ⟨a.heap.size,1,none⟩=some (.bool false):=by simp[go_sem]
       have F0:(a.alloc (.cells #[.int .i64 0,.bool false] 170)).drew.frozen? ⟨a.heap.size,0,none⟩=false:=by simp[go_sem]
       have F1:(a.alloc (.cells #[.int .i64 0,.bool false] 170)).drew.frozen? ⟨a.heap.size,1,none⟩=false:=by simp[go_sem]
       have d0:=fO u s X;have d1:=fO u s f1;have d2:=fO u s Y;have d3:=fO u s Z;have d4:=fO u s f4;have d5:=fO u s f5;go_wp2;go_region_held3 (λV=>V.cell? ⟨b,off+k*6,none⟩=some (.int .i64 x.op)/\V.cell? ⟨b,off+k*6+1,none⟩=some (.int .i64 x.value.kind)/\V.cell? ⟨b,off+k*6+2,none⟩=some (.int .i64 x.value.num)/\V.cell? ⟨b,off+k*6+3,none⟩=some (.string x.value.str)/\V.cell? ⟨b,off+k*6+4,none⟩=some (.string x.name)/\V.cell? ⟨b,off+k*6+5,none⟩=some (.int .i64 x.arity)) (first|exact⟨X,f1,Y,Z,f4,f5⟩|exact⟨L,M,N,O,P,Q⟩|exact⟨d0,d1,d2,d3,d4,d5⟩|exact⟨fM (fM L (.inl t)) (.inl t),fM (fM M (.inl t)) (.inl t),fM (fM N (.inl t)) (.inl t),fM (fM O (.inl t)) (.inl t),fM (fM P (.inl t)) (.inl t),fM (fM Q (.inl t)) (.inl t)⟩|exact⟨fO (b:=b) (fI (w:=h)) l L,fO (b:=b) (fI (w:=h)) l M,fO (b:=b) (fI (w:=h)) l N,fO (b:=b) (fI (w:=h)) l O,fO (b:=b) (fI (w:=h)) l P,fO (b:=b) (fI (w:=h)) l Q⟩|exact⟨fM (fM (fO (b:=b) (fI (w:=h)) l L) (.inl p)) (.inl p),fM (fM (fO (b:=b) (fI (w:=h)) l M) (.inl p)) (.inl p),fM (fM (fO (b:=b) (fI (w:=h)) l N) (.inl p)) (.inl p),fM (fM (fO (b:=b) (fI (w:=h)) l O) (.inl p)) (.inl p),fM (fM (fO (b:=b) (fI (w:=h)) l P) (.inl p)) (.inl p),fM (fM (fO (b:=b) (fI (w:=h)) l Q) (.inl p)) (.inl p)⟩) (first|(go_at_call 132;refine(oU x am.o al.o m HM.o _ _ _ (st.drop r) ac.o _ _ _ cols (an.below u) _ _ _ zs (ao.below u)).mono ?_;rintro e h ⟨rfl,j⟩;rw[ad.o];simp only[Kd.cells];have hQ:Hl (a.heap.size=a.heap.size):=Hm rfl;have L:=fO j J d0;have M:=fO j J d1;have N:=fO j J d2;have O:=fO j J d3;have P:=fO j J d4;have Q:=fO j J d5;have aj:=fO j S C;have ak:=fO j S E;have au:=((fU j).2 _ _ S).trans F0;have av:=((fU j).2 _ _ S).trans F1;have I:Below a.heap.size a h:=u.trans (j.mono u.size);have l:b<h.heap.size:=Nat.lt_of_lt_of_le s I.size;have p:¬b=h.heap.size:=(by omega);clear j C E F0 F1)|(go_at_call 132;refine(oU x am.o al.o m HM.o _ _ _ (st.drop r) ae.o _ _ _ cols (an.below (Below.refl _ _).drew) _ _ _ zs (ao.below (Below.refl _ _).drew)).mono ?_;rintro e h ⟨rfl,j⟩;rw[ad.o];simp only[Kd.cells];have L:=fO (fP j) s X;have M:=fO (fP j) s f1;have N:=fO (fP j) s Y;have O:=fO (fP j) s Z;have P:=fO (fP j) s f4;have Q:=fO (fP j) s f5;have I:Below a.heap.size a h:=fP j;have l:b<h.heap.size:=Nat.lt_of_lt_of_le s I.size;have p:¬b=h.heap.size:=(by omega);clear j C E F0 F1))
       ·obtain⟨D,T⟩: ∃D,D=h.alloc (.cells #[.int .i64 F,.bool H] 170):=⟨_,rfl⟩;have ah:Below a.heap.size a D:=by rw[T];exact I.alloc I.size _
        have C:D.cell? ⟨h.heap.size,0,none⟩=some (.int .i64 F):=by rw[T];simp[go_sem]
        have E:D.cell? ⟨h.heap.size,1,none⟩=some (.bool H):=by rw[T];simp[go_sem]
        rw[<-T];obtain⟨G,hG⟩: ∃G,h.heap.size=G:=⟨_,rfl⟩;rw[hG]at C E;rw[hG];clear T hG X f1 Y Z f4 f5 L M N O P Q d0 d1 d2 d3 d4 d5 ac ae I u S J l p;have U:Hl (gU cols zs [] es=gU cols zs (st.take r++[⟨F,H⟩]) (es.drop (k+1))):=Hm (by rw[HQ.o.1,HX.o,j6 HM.o K.o.len (k:=⟨F,H⟩) ad.o]);have aa:=Hm (R.o.keep ah);have af:Hl (r<=st.length):=Hm (by rw[K.o.len];omega);have aK:w.heap.size<=D.heap.size:=aa.o.below.size;have W:G<D.heap.size:=lt_of_cell C;have r1:(r:Int)<=(r:Int):=by have h1:=K.o.stk.cap.1;have h2:=K.o.len;omega
        clear ah;go_wp2;go_region_held3 (λV=>V.cell? ⟨G,0,none⟩=some (.int .i64 F)/\V.cell? ⟨G,1,none⟩=some (.bool H)) (first|exact⟨C,E⟩|exact⟨fO ((Below.refl _ _).drew.alloc (Nat.le_refl _) _) W C,fO ((Below.refl _ _).drew.alloc (Nat.le_refl _) _) W E⟩|exact⟨fO ab ag (fO ((Below.refl _ _).drew.alloc (Nat.le_refl _) _) W C),fO ab ag (fO ((Below.refl _ _).drew.alloc (Nat.le_refl _) _) W E)⟩) (first|(refine ma (α:=Kd) _ rfl (.tmp 75) (.tmp 77) 167 rfl w.heap.size 170 i0 _ 16 Tryz.underlying167 hi aE aF aG rfl (by decide) B r r st (aa.o.stk.keep ((Below.refl _ _).drew.alloc (Nat.le_refl _) _)) af.o rfl ⟨F,H⟩ aw.o D.heap.size rfl (iI _ _ _ _ rfl) (by omega) (by simp;omega) ?_;intro A' c' w7 ar ab;have ag:G<(World.alloc D.drew (.cells #[.int .i64 F,.bool H] 170)).heap.size:=(by simp;omega);have HP:Hl (KSt 170 w w7 (st.take r++[⟨F,H⟩]) (r+1) A' c'):=Hm ⟨ar,(by rw[List.length_append,List.length_take,Nat.min_eq_left af.o];rfl),(aa.o.below.drew.alloc (by simp;omega) _).trans (ab.mono (by simp;omega))⟩));go_wp2;go_roundw
        case rel=>exact⟨k+1,r+1,_,aD,A',c',by omega,by omega,by go_num,rfl,⟨U.o,ay.o,az.o⟩,HP.o⟩
        case measure=>simp[intOf];omega
       ·obtain⟨D,T⟩: ∃D,D=(h.setCell ⟨a.heap.size,0,none⟩ (.int .i64 F)).setCell ⟨a.heap.size,1,none⟩ (.bool H):=⟨_,rfl⟩;have ah:Below a.heap.size a D:=by rw[T];exact jZ I (Nat.le_refl _) _ _
        have C:D.cell? ⟨a.heap.size,0,none⟩=some (.int .i64 F):=by rw[T];exact mW aj ak 0 _ rfl
        have E:D.cell? ⟨a.heap.size,1,none⟩=some (.bool H):=by rw[T];exact mW aj ak 1 _ rfl
        rw[<-T];obtain⟨G,hG⟩: ∃G,a.heap.size=G:=⟨_,rfl⟩;rw[hG]at C E;rw[hG];clear T hG aj ak au av X f1 Y Z f4 f5 L M N O P Q d0 d1 d2 d3 d4 d5 ac ae I u S J l p;have U:Hl (gU cols zs [] es=gU cols zs (st.take r++[⟨F,H⟩]) (es.drop (k+1))):=Hm (by rw[HQ.o.1,HX.o,j6 HM.o K.o.len (k:=⟨F,H⟩) ad.o]);have aa:=Hm (R.o.keep ah);have af:Hl (r<=st.length):=Hm (by rw[K.o.len];omega);have aK:w.heap.size<=D.heap.size:=aa.o.below.size;have W:G<D.heap.size:=lt_of_cell C;have r1:(r:Int)<=(r:Int):=by have h1:=K.o.stk.cap.1;have h2:=K.o.len;omega
        clear ah;go_wp2;go_region_held3 (λV=>V.cell? ⟨G,0,none⟩=some (.int .i64 F)/\V.cell? ⟨G,1,none⟩=some (.bool H)) (first|exact⟨C,E⟩|exact⟨fO ((Below.refl _ _).drew.alloc (Nat.le_refl _) _) W C,fO ((Below.refl _ _).drew.alloc (Nat.le_refl _) _) W E⟩|exact⟨fO ab ag (fO ((Below.refl _ _).drew.alloc (Nat.le_refl _) _) W C),fO ab ag (fO ((Below.refl _ _).drew.alloc (Nat.le_refl _) _) W E)⟩) (first|(refine ma (α:=Kd) _ rfl (.tmp 75) (.tmp 77) 167 rfl w.heap.size 170 i0 _ 16 Tryz.underlying167 hi aE aF aG rfl (by decide) B r r st (aa.o.stk.keep ((Below.refl _ _).drew.alloc (Nat.le_refl _) _)) af.o rfl ⟨F,H⟩ aw.o D.heap.size rfl (iI _ _ _ _ rfl) (by omega) (by simp;omega) ?_;intro A' c' w7 ar ab;have ag:G<(World.alloc D.drew (.cells #[.int .i64 F,.bool H] 170)).heap.size:=(by simp;omega);have HP:Hl (KSt 170 w w7 (st.take r++[⟨F,H⟩]) (r+1) A' c'):=Hm ⟨ar,(by rw[List.length_append,List.length_take,Nat.min_eq_left af.o];rfl),(aa.o.below.drew.alloc (by simp;omega) _).trans (ab.mono (by simp;omega))⟩));go_wp2;go_roundw
        case rel=>exact⟨k+1,r+1,_,aD,A',c',by omega,by omega,by go_num,rfl,⟨U.o,ay.o,az.o⟩,HP.o⟩
        case measure=>simp[intOf];omega
      ·have u:Below a.heap.size a (a.alloc (.cells #[.int .i64 0,.bool false] 170)).drew:=((Below.refl _ _).alloc (Nat.le_refl _) _).drew;have ac:Hl (In (a.alloc (.cells #[.int .i64 0,.bool false] 170)).drew (some ⟨g,r*2,none⟩) m (cb-r) (st.drop r)):=Hm (ap.below u);have ae:Hl (In a.drew (some ⟨g,r*2,none⟩) m (cb-r) (st.drop r)):=Hm (ap.below (Below.refl _ _).drew);clear ap;have S:a.heap.size<(a.alloc (.cells #[.int .i64 0,.bool false] 170)).drew.heap.size:=by simp
       have J:b<(a.alloc (.cells #[.int .i64 0,.bool false] 170)).drew.heap.size:=by simp;omega
       have t:¬b=a.heap.size:=by omega
       have C:(a.alloc (.cells #[.int .i64 0,.bool false] 170)).drew.cell? ⟨a.heap.size,0,none⟩=some (.int .i64 0):=by simp[go_sem]
       have E:(a.alloc (.cells #[.int .i64 0,.bool false] 170)).drew.cell? ⟨a.heap.size,1,none⟩=some (.bool false):=by simp[go_sem]
       have F0:(a.alloc (.cells #[.int .i64 0,.bool false] 170)).drew.frozen? ⟨a.heap.size,0,none⟩=false:=by simp[go_sem]
       have F1:(a.alloc (.cells #[.int .i64 0,.bool false] 170)).drew.frozen? ⟨a.heap.size,1,none⟩=false:=by simp[go_sem]
       have d0:=fO u s X;have d1:=fO u s f1;have d2:=fO u s Y;have d3:=fO u s Z;have d4:=fO u s f4;have d5:=fO u s f5;go_wp2;go_region_held3 (λV=>V.cell? ⟨b,off+k*6,none⟩=some (.int .i64 x.op)/\V.cell? ⟨b,off+k*6+1,none⟩=some (.int .i64 x.value.kind)/\V.cell? ⟨b,off+k*6+2,none⟩=some (.int .i64 x.value.num)/\V.cell? ⟨b,off+k*6+3,none⟩=some (.string x.value.str)/\V.cell? ⟨b,off+k*6+4,none⟩=some (.string x.name)/\V.cell? ⟨b,off+k*6+5,none⟩=some (.int .i64 x.arity)) (first|exact⟨X,f1,Y,Z,f4,f5⟩|exact⟨L,M,N,O,P,Q⟩|exact⟨d0,d1,d2,d3,d4,d5⟩|exact⟨fM (fM L (.inl t)) (.inl t),fM (fM M (.inl t)) (.inl t),fM (fM N (.inl t)) (.inl t),fM (fM O (.inl t)) (.inl t),fM (fM P (.inl t)) (.inl t),fM (fM Q (.inl t)) (.inl t)⟩|exact⟨fO (b:=b) (fI (w:=h)) l L,fO (b:=b) (fI (w:=h)) l M,fO (b:=b) (fI (w:=h)) l N,fO (b:=b) (fI (w:=h)) l O,fO (b:=b) (fI (w:=h)) l P,fO (b:=b) (fI (w:=h)) l Q⟩|exact⟨fM (fM (fO (b:=b) (fI (w:=h)) l L) (.inl p)) (.inl p),fM (fM (fO (b:=b) (fI (w:=h)) l M) (.inl p)) (.inl p),fM (fM (fO (b:=b) (fI (w:=h)) l N) (.inl p)) (.inl p),fM (fM (fO (b:=b) (fI (w:=h)) l O) (.inl p)) (.inl p),fM (fM (fO (b:=b) (fI (w:=h)) l P) (.inl p)) (.inl p),fM (fM (fO (b:=b) (fI (w:=h)) l Q) (.inl p)) (.inl p)⟩) (first|(go_at_call 132;refine(oU x am.o al.o m HM.o _ _ _ (st.drop r) ac.o _ _ _ cols (an.below u) _ _ _ zs (ao.below u)).mono ?_;rintro e h ⟨rfl,j⟩;rw[ad.o];simp only[Kd.cells];have hQ:Hl (a.heap.size=a.heap.size):=Hm rfl;have L:=fO j J d0;have M:=fO j J d1;have N:=fO j J d2;have O:=fO j J d3;have P:=fO j J d4;have Q:=fO j J d5;have aj:=fO j S C;have ak:=fO j S E;have au:=((fU j).2 _ _ S).trans F0;have av:=((fU j).2 _ _ S).trans F1;have I:Below a.heap.size a h:=u.trans (j.mono u.size);have l:b<h.heap.size:=Nat.lt_of_lt_of_le s I.size;have p:¬b=h.heap.size:=(by omega);clear j C E F0 F1)|(go_at_call 132;refine(oU x am.o al.o m HM.o _ _ _ (st.drop r) ae.o _ _ _ cols (an.below (Below.refl _ _).drew) _ _ _ zs (ao.below (Below.refl _ _).drew)).mono ?_;rintro e h ⟨rfl,j⟩;rw[ad.o];simp only[Kd.cells];have L:=fO (fP j) s X;have M:=fO (fP j) s f1;have N:=fO (fP j) s Y;have O:=fO (fP j) s Z;have P:=fO (fP j) s f4;have Q:=fO (fP j) s f5;have I:Below a.heap.size a h:=fP j;have l:b<h.heap.size:=Nat.lt_of_lt_of_le s I.size;have p:¬b=h.heap.size:=(by omega);clear j C E F0 F1))
       ·obtain⟨D,T⟩: ∃D,D=h.alloc (.cells #[.int .i64 F,.bool H] 170):=⟨_,rfl⟩;have ah:Below a.heap.size a D:=by rw[T];exact I.alloc I.size _
        have C:D.cell? ⟨h.heap.size,0,none⟩=some (.int .i64 F):=by rw[T];simp[go_sem]
        have E:D.cell? ⟨h.heap.size,1,none⟩=some (.bool H):=by rw[T];simp[go_sem]
        rw[<-T];obtain⟨G,hG⟩: ∃G,h.heap.size=G:=⟨_,rfl⟩;rw[hG]at C E;rw[hG];clear T hG X f1 Y Z f4 f5 L M N O P Q d0 d1 d2 d3 d4 d5 ac ae I u S J l p;have U:Hl (gU cols zs [] es=gU cols zs (st.take r++[⟨F,H⟩]) (es.drop (k+1))):=Hm (by rw[HQ.o.1,HX.o,j6 HM.o K.o.len (k:=⟨F,H⟩) ad.o]);have aa:=Hm (R.o.keep ah);have af:Hl (r<=st.length):=Hm (by rw[K.o.len];omega);have aK:w.heap.size<=D.heap.size:=aa.o.below.size;have W:G<D.heap.size:=lt_of_cell C;have r1:(r:Int)<=(cb:Int):=by have h1:=K.o.stk.cap.1;have h2:=K.o.len;omega
        clear ah;go_wp2;go_region_held3 (λV=>V.cell? ⟨G,0,none⟩=some (.int .i64 F)/\V.cell? ⟨G,1,none⟩=some (.bool H)) (first|exact⟨C,E⟩|exact⟨fO ((Below.refl _ _).drew.alloc (Nat.le_refl _) _) W C,fO ((Below.refl _ _).drew.alloc (Nat.le_refl _) _) W E⟩|exact⟨fO ab ag (fO ((Below.refl _ _).drew.alloc (Nat.le_refl _) _) W C),fO ab ag (fO ((Below.refl _ _).drew.alloc (Nat.le_refl _) _) W E)⟩) (first|(refine ma (α:=Kd) _ rfl (.tmp 75) (.tmp 77) 167 rfl w.heap.size 170 i0 _ 16 Tryz.underlying167 hi aE aF aG rfl (by decide) (some ⟨g,0,none⟩) cb r st (aa.o.stk.keep ((Below.refl _ _).drew.alloc (Nat.le_refl _) _)) af.o rfl ⟨F,H⟩ aw.o D.heap.size rfl (iI _ _ _ _ rfl) (by omega) (by simp;omega) ?_;intro A' c' w7 ar ab;have ag:G<(World.alloc D.drew (.cells #[.int .i64 F,.bool H] 170)).heap.size:=(by simp;omega);have HP:Hl (KSt 170 w w7 (st.take r++[⟨F,H⟩]) (r+1) A' c'):=Hm ⟨ar,(by rw[List.length_append,List.length_take,Nat.min_eq_left af.o];rfl),(aa.o.below.drew.alloc (by simp;omega) _).trans (ab.mono (by simp;omega))⟩));go_wp2;go_roundw
        case rel=>exact⟨k+1,r+1,_,aD,A',c',by omega,by omega,by go_num,rfl,⟨U.o,ay.o,az.o⟩,HP.o⟩
        case measure=>simp[intOf];omega
       ·obtain⟨D,T⟩: ∃D,D=(h.setCell ⟨a.heap.size,0,none⟩ (.int .i64 F)).setCell ⟨a.heap.size,1,none⟩ (.bool H):=⟨_,rfl⟩;have ah:Below a.heap.size a D:=by rw[T];exact jZ I (Nat.le_refl _) _ _
        have C:D.cell? ⟨a.heap.size,0,none⟩=some (.int .i64 F):=by rw[T];exact mW aj ak 0 _ rfl
        have E:D.cell? ⟨a.heap.size,1,none⟩=some (.bool H):=by rw[T];exact mW aj ak 1 _ rfl
        rw[<-T];obtain⟨G,hG⟩: ∃G,a.heap.size=G:=⟨_,rfl⟩;rw[hG]at C E;rw[hG];clear T hG aj ak au av X f1 Y Z f4 f5 L M N O P Q d0 d1 d2 d3 d4 d5 ac ae I u S J l p;have U:Hl (gU cols zs [] es=gU cols zs (st.take r++[⟨F,H⟩]) (es.drop (k+1))):=Hm (by rw[HQ.o.1,HX.o,j6 HM.o K.o.len (k:=⟨F,H⟩) ad.o]);have aa:=Hm (R.o.keep ah);have af:Hl (r<=st.length):=Hm (by rw[K.o.len];omega);have aK:w.heap.size<=D.heap.size:=aa.o.below.size;have W:G<D.heap.size:=lt_of_cell C;have r1:(r:Int)<=(cb:Int):=by have h1:=K.o.stk.cap.1;have h2:=K.o.len;omega
        clear ah;go_wp2;go_region_held3 (λV=>V.cell? ⟨G,0,none⟩=some (.int .i64 F)/\V.cell? ⟨G,1,none⟩=some (.bool H)) (first|exact⟨C,E⟩|exact⟨fO ((Below.refl _ _).drew.alloc (Nat.le_refl _) _) W C,fO ((Below.refl _ _).drew.alloc (Nat.le_refl _) _) W E⟩|exact⟨fO ab ag (fO ((Below.refl _ _).drew.alloc (Nat.le_refl _) _) W C),fO ab ag (fO ((Below.refl _ _).drew.alloc (Nat.le_refl _) _) W E)⟩) (first|(refine ma (α:=Kd) _ rfl (.tmp 75) (.tmp 77) 167 rfl w.heap.size 170 i0 _ 16 Tryz.underlying167 hi aE aF aG rfl (by decide) (some ⟨g,0,none⟩) cb r st (aa.o.stk.keep ((Below.refl _ _).drew.alloc (Nat.le_refl _) _)) af.o rfl ⟨F,H⟩ aw.o D.heap.size rfl (iI _ _ _ _ rfl) (by omega) (by simp;omega) ?_;intro A' c' w7 ar ab;have ag:G<(World.alloc D.drew (.cells #[.int .i64 F,.bool H] 170)).heap.size:=(by simp;omega);have HP:Hl (KSt 170 w w7 (st.take r++[⟨F,H⟩]) (r+1) A' c'):=Hm ⟨ar,(by rw[List.length_append,List.length_take,Nat.min_eq_left af.o];rfl),(aa.o.below.drew.alloc (by simp;omega) _).trans (ab.mono (by simp;omega))⟩));go_wp2;go_roundw
        case rel=>exact⟨k+1,r+1,_,aD,A',c',by omega,by omega,by go_num,rfl,⟨U.o,ay.o,az.o⟩,HP.o⟩
        case measure=>simp[intOf];omega
     ·have q2:(er != 0)=true:=by simpa using aB
      have U:Hl (iX es cols zs=(er,default)):=Hm (by rw[HT.o,HQ.o.1,HX.o,jY HM.o K.o.len (e:=er) (by rw[ad.o]) aB]);clear aB;rcases sI R.o.stk R.o.len with ⟨rfl,aq⟩|⟨aU,g,rfl,ap⟩
      ·have u:Below a.heap.size a (a.alloc (.cells #[.int .i64 0,.bool false] 170)).drew:=((Below.refl _ _).alloc (Nat.le_refl _) _).drew;have ac:Hl (In (a.alloc (.cells #[.int .i64 0,.bool false] 170)).drew B m 0 (st.drop r)):=Hm (by rw[List.drop_eq_nil_of_le (by rw[K.o.len];omega),aq];exact Sl.empty (by omega) (λ_=>rfl));have ae:Hl (In a.drew B m 0 (st.drop r)):=Hm (by rw[List.drop_eq_nil_of_le (by rw[K.o.len];omega),aq];exact Sl.empty (by omega) (λ_=>rfl));clear aq;have S:a.heap.size<(a.alloc (.cells #[.int .i64 0,.bool false] 170)).drew.heap.size:=by simp
       have J:b<(a.alloc (.cells #[.int .i64 0,.bool false] 170)).drew.heap.size:=by simp;omega
       have t:¬b=a.heap.size:=by omega
       have C:(a.alloc (.cells #[.int .i64 0,.bool false] 170)).drew.cell? ⟨a.heap.size,0,none⟩=some (.int .i64 0):=by simp[go_sem]
       have E:(a.alloc (.cells #[.int .i64 0,.bool false] 170)).drew.cell? ⟨a.heap.size,1,none⟩=some (.bool false):=by simp[go_sem]
       have F0:(a.alloc (.cells #[.int .i64 0,.bool false] 170)).drew.frozen? ⟨a.heap.size,0,none⟩=false:=by simp[go_sem]
       have F1:(a.alloc (.cells #[.int .i64 0,.bool false] 170)).drew.frozen? ⟨a.heap.size,1,none⟩=false:=by simp[go_sem]
       have d0:=fO u s X;have d1:=fO u s f1;have d2:=fO u s Y;have d3:=fO u s Z;have d4:=fO u s f4;have d5:=fO u s f5;go_wp2;go_region_held3 (λV=>V.cell? ⟨b,off+k*6,none⟩=some (.int .i64 x.op)/\V.cell? ⟨b,off+k*6+1,none⟩=some (.int .i64 x.value.kind)/\V.cell? ⟨b,off+k*6+2,none⟩=some (.int .i64 x.value.num)/\V.cell? ⟨b,off+k*6+3,none⟩=some (.string x.value.str)/\V.cell? ⟨b,off+k*6+4,none⟩=some (.string x.name)/\V.cell? ⟨b,off+k*6+5,none⟩=some (.int .i64 x.arity)) (first|exact⟨X,f1,Y,Z,f4,f5⟩|exact⟨L,M,N,O,P,Q⟩|exact⟨d0,d1,d2,d3,d4,d5⟩|exact⟨fM (fM L (.inl t)) (.inl t),fM (fM M (.inl t)) (.inl t),fM (fM N (.inl t)) (.inl t),fM (fM O (.inl t)) (.inl t),fM (fM P (.inl t)) (.inl t),fM (fM Q (.inl t)) (.inl t)⟩|exact⟨fO (b:=b) (fI (w:=h)) l L,fO (b:=b) (fI (w:=h)) l M,fO (b:=b) (fI (w:=h)) l N,fO (b:=b) (fI (w:=h)) l O,fO (b:=b) (fI (w:=h)) l P,fO (b:=b) (fI (w:=h)) l Q⟩|exact⟨fM (fM (fO (b:=b) (fI (w:=h)) l L) (.inl p)) (.inl p),fM (fM (fO (b:=b) (fI (w:=h)) l M) (.inl p)) (.inl p),fM (fM (fO (b:=b) (fI (w:=h)) l N) (.inl p)) (.inl p),fM (fM (fO (b:=b) (fI (w:=h)) l O) (.inl p)) (.inl p),fM (fM (fO (b:=b) (fI (w:=h)) l P) (.inl p)) (.inl p),fM (fM (fO (b:=b) (fI (w:=h)) l Q) (.inl p)) (.inl p)⟩) (first|(go_at_call 132;refine(oU x am.o al.o m HM.o _ _ _ (st.drop r) ac.o _ _ _ cols (an.below u) _ _ _ zs (ao.below u)).mono ?_;rintro e h ⟨rfl,j⟩;rw[ad.o];simp only[Kd.cells];have hQ:Hl (a.heap.size=a.heap.size):=Hm rfl;have L:=fO j J d0;have M:=fO j J d1;have N:=fO j J d2;have O:=fO j J d3;have P:=fO j J d4;have Q:=fO j J d5;have aj:=fO j S C;have ak:=fO j S E;have au:=((fU j).2 _ _ S).trans F0;have av:=((fU j).2 _ _ S).trans F1;have I:Below a.heap.size a h:=u.trans (j.mono u.size);have l:b<h.heap.size:=Nat.lt_of_lt_of_le s I.size;have p:¬b=h.heap.size:=(by omega);clear j C E F0 F1)|(go_at_call 132;refine(oU x am.o al.o m HM.o _ _ _ (st.drop r) ae.o _ _ _ cols (an.below (Below.refl _ _).drew) _ _ _ zs (ao.below (Below.refl _ _).drew)).mono ?_;rintro e h ⟨rfl,j⟩;rw[ad.o];simp only[Kd.cells];have L:=fO (fP j) s X;have M:=fO (fP j) s f1;have N:=fO (fP j) s Y;have O:=fO (fP j) s Z;have P:=fO (fP j) s f4;have Q:=fO (fP j) s f5;have I:Below a.heap.size a h:=fP j;have l:b<h.heap.size:=Nat.lt_of_lt_of_le s I.size;have p:¬b=h.heap.size:=(by omega);clear j C E F0 F1))
       ·go_wp2
        go_ret3
        exact⟨by rw[U.o];rfl,(R.o.below.trans (I.mono R.o.below.size)).alloc (R.o.below.trans (I.mono R.o.below.size)).size _⟩
       ·go_wp2
        go_ret3
        exact⟨by rw[U.o];rfl,jZ (R.o.below.trans (I.mono R.o.below.size)) R.o.below.size _ _⟩
      ·have u:Below a.heap.size a (a.alloc (.cells #[.int .i64 0,.bool false] 170)).drew:=((Below.refl _ _).alloc (Nat.le_refl _) _).drew;have ac:Hl (In (a.alloc (.cells #[.int .i64 0,.bool false] 170)).drew (some ⟨g,r*2,none⟩) m (cb-r) (st.drop r)):=Hm (ap.below u);have ae:Hl (In a.drew (some ⟨g,r*2,none⟩) m (cb-r) (st.drop r)):=Hm (ap.below (Below.refl _ _).drew);clear ap;have S:a.heap.size<(a.alloc (.cells #[.int .i64 0,.bool false] 170)).drew.heap.size:=by simp
       have J:b<(a.alloc (.cells #[.int .i64 0,.bool false] 170)).drew.heap.size:=by simp;omega
       have t:¬b=a.heap.size:=by omega
       have C:(a.alloc (.cells #[.int .i64 0,.bool false] 170)).drew.cell? ⟨a.heap.size,0,none⟩=some (.int .i64 0):=by simp[go_sem]
       have E:(a.alloc (.cells #[.int .i64 0,.bool false] 170)).drew.cell? ⟨a.heap.size,1,none⟩=some (.bool false):=by simp[go_sem]
       have F0:(a.alloc (.cells #[.int .i64 0,.bool false] 170)).drew.frozen? ⟨a.heap.size,0,none⟩=false:=by simp[go_sem]
       have F1:(a.alloc (.cells #[.int .i64 0,.bool false] 170)).drew.frozen? ⟨a.heap.size,1,none⟩=false:=by simp[go_sem]
       have d0:=fO u s X;have d1:=fO u s f1;have d2:=fO u s Y;have d3:=fO u s Z;have d4:=fO u s f4;have d5:=fO u s f5;go_wp2;go_region_held3 (λV=>V.cell? ⟨b,off+k*6,none⟩=some (.int .i64 x.op)/\V.cell? ⟨b,off+k*6+1,none⟩=some (.int .i64 x.value.kind)/\V.cell? ⟨b,off+k*6+2,none⟩=some (.int .i64 x.value.num)/\V.cell? ⟨b,off+k*6+3,none⟩=some (.string x.value.str)/\V.cell? ⟨b,off+k*6+4,none⟩=some (.string x.name)/\V.cell? ⟨b,off+k*6+5,none⟩=some (.int .i64 x.arity)) (first|exact⟨X,f1,Y,Z,f4,f5⟩|exact⟨L,M,N,O,P,Q⟩|exact⟨d0,d1,d2,d3,d4,d5⟩|exact⟨fM (fM L (.inl t)) (.inl t),fM (fM M (.inl t)) (.inl t),fM (fM N (.inl t)) (.inl t),fM (fM O (.inl t)) (.inl t),fM (fM P (.inl t)) (.inl t),fM (fM Q (.inl t)) (.inl t)⟩|exact⟨fO (b:=b) (fI (w:=h)) l L,fO (b:=b) (fI (w:=h)) l M,fO (b:=b) (fI (w:=h)) l N,fO (b:=b) (fI (w:=h)) l O,fO (b:=b) (fI (w:=h)) l P,fO (b:=b) (fI (w:=h)) l Q⟩|exact⟨fM (fM (fO (b:=b) (fI (w:=h)) l L) (.inl p)) (.inl p),fM (fM (fO (b:=b) (fI (w:=h)) l M) (.inl p)) (.inl p),fM (fM (fO (b:=b) (fI (w:=h)) l N) (.inl p)) (.inl p),fM (fM (fO (b:=b) (fI (w:=h)) l O) (.inl p)) (.inl p),fM (fM (fO (b:=b) (fI (w:=h)) l P) (.inl p)) (.inl p),fM (fM (fO (b:=b) (fI (w:=h)) l Q) (.inl p)) (.inl p)⟩) (first|(go_at_call 132;refine(oU x am.o al.o m HM.o _ _ _ (st.drop r) ac.o _ _ _ cols (an.below u) _ _ _ zs (ao.below u)).mono ?_;rintro e h ⟨rfl,j⟩;rw[ad.o];simp only[Kd.cells];have hQ:Hl (a.heap.size=a.heap.size):=Hm rfl;have L:=fO j J d0;have M:=fO j J d1;have N:=fO j J d2;have O:=fO j J d3;have P:=fO j J d4;have Q:=fO j J d5;have aj:=fO j S C;have ak:=fO j S E;have au:=((fU j).2 _ _ S).trans F0;have av:=((fU j).2 _ _ S).trans F1;have I:Below a.heap.size a h:=u.trans (j.mono u.size);have l:b<h.heap.size:=Nat.lt_of_lt_of_le s I.size;have p:¬b=h.heap.size:=(by omega);clear j C E F0 F1)|(go_at_call 132;refine(oU x am.o al.o m HM.o _ _ _ (st.drop r) ae.o _ _ _ cols (an.below (Below.refl _ _).drew) _ _ _ zs (ao.below (Below.refl _ _).drew)).mono ?_;rintro e h ⟨rfl,j⟩;rw[ad.o];simp only[Kd.cells];have L:=fO (fP j) s X;have M:=fO (fP j) s f1;have N:=fO (fP j) s Y;have O:=fO (fP j) s Z;have P:=fO (fP j) s f4;have Q:=fO (fP j) s f5;have I:Below a.heap.size a h:=fP j;have l:b<h.heap.size:=Nat.lt_of_lt_of_le s I.size;have p:¬b=h.heap.size:=(by omega);clear j C E F0 F1))
       ·go_wp2
        go_ret3
        exact⟨by rw[U.o];rfl,(R.o.below.trans (I.mono R.o.below.size)).alloc (R.o.below.trans (I.mono R.o.below.size)).size _⟩
       ·go_wp2
        go_ret3
        exact⟨by rw[U.o];rfl,jZ (R.o.below.trans (I.mono R.o.below.size)) R.o.below.size _ _⟩
    ·have HX:=Hm (gG hx.len (show n<=k by omega));have aV:d=1:=pE (by rw[<-HX.o];exact HQ.o.2.2) HQ.o.2.1;subst aV;have ac:Hl (In wr B 1 cb st):=Hm (by have:=K.o.stk.inn;rw[K.o.len]at this;exact this);obtain⟨b3,a2,y,rfl,aY,HY,y0,y1,y2⟩:=ac.o.kd (show 0<1 by omega);simp only[Nat.zero_mul,Nat.add_zero]at y0 y1;have HR:Hl (iX es cols zs=(0,y)):=Hm (by
      rw[HT.o,HQ.o.1,HX.o,gU];have:=HY.o;rw[List.drop_zero]at this;rw[this];rfl)
     have k0:(0:Int)<(1:Int):=by omega
     go_wp2;go_quiet (fail);go_wp2
     go_ret3
     exact⟨by rw[HR.o];rfl,below_drewN K.o.below _⟩
end Go.Proofs.YtopjjlmfilgngaaGreatDoor
