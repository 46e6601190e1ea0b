/-
  scalar.find and warehouseref9.Zone: the first zone with a name; scalar.check. scalar.typed at any node but a column and a call; what exprErr = 0 says of each node; an append in a region that draws its order.
-/
import Derived.Test.YtopjjlmfilgngaaGreatDoorGaj
import Derived.Test.YtopjjlmfilgngaaGreatDoorGai
import Derived.Test.YtopjjlmfilgngaaGreatDoorGad
import Derived.Test.YtopjjlmfilgngaaGreatDoorGar
namespace Go.Proofs.YtopjjlmfilgngaaGreatDoor
set_option maxHeartbeats 2000000
set_option maxRecDepth 100000
open Go.RowKit
set_option linter.unusedSimpArgs false
set_option linter.unusedVariables false
theorem In.zone {w:World}{A:Option Addr}{n c k:Nat}{xs:List Zone}(h:In w A n c xs)(hk:k<n): ∃b off x,A=some ⟨b,off,none⟩/\b<w.heap.size/\Hid (xs.drop k=x :: xs.drop (k+1))/\
  ∃A' n' c',w.cell? ⟨b,off+k*3,none⟩=some (.string x.name)/\w.cell? ⟨b,off+k*3+1,none⟩=some (.int .i64 x.offset)/\w.cell? ⟨b,off+k*3+2,none⟩=some (.slice A' n' c')/\In w A' n' c' x.shifts/\Str x.name/\eZ x.offset:=by
 obtain ⟨b,off,x,e,hb,hx,cs,⟨A',n',c',rfl,hs,hv,ho⟩,hc⟩:=h.get hk;exact ⟨b,off,x,e,hb,hx,A',n',c',hc 0 (by simp),hc 1 (by simp),hc 2 (by simp),hs,hv,ho⟩
theorem O1 (z:Zone)(A:Option Addr)(n c:Nat)(name:ByteArray)(g:Nat)(w:World)(hg:w.cell? ⟨g,0,none⟩=some (.string name))(hlt:g<w.heap.size):
  Calls Tryz.prog 236 #[.agg #[.string z.name,.int .i64 z.offset,.slice A n c],.pointer (some ⟨g,0,none⟩)] w λe w'=>e=.returned (.bool (z.name.toList==name.toList))/\Below w.heap.size w w':=by
 go_enter Tryz.func236,Tryz.ntmps236;go_wp2;go_ret;exact ⟨rfl,ae⟩
theorem zq (w:World)(A:Option Addr)(n c:Nat)(xs:List Zone)(hx:In w A n c xs)(name:ByteArray)(g:Nat)(hg:w.cell? ⟨g,0,none⟩=some (.string name))(hlt:g<w.heap.size):
  Calls Tryz.prog 235 #[.slice A n c,.func (.func 236) #[] #[.pointer (some ⟨g,0,none⟩)]] w
   λe w'=>e=.returned (.int .i64 (jB xs name))/\Below w.heap.size w w':=by
 have h63:=hx.le;go_enter Tryz.func235,Tryz.ntmps235;go_wp2;go_loopw [8] (λi wr=> ∃k:Nat,k<=n/\i=.int .i64 k/\jB xs name=jI name k (xs.drop k)/\Below w.heap.size w wr) (λi _=>n-(intOf i).toNat)
 case atStart=>exact ⟨0,Nat.zero_le _,rfl,rfl,Below.refl _ _⟩
 case round=>
  obtain ⟨k,hk,rfl,heq,hb⟩:=hrel;have HE:=hide heq;clear heq;by_cases hlt':k<n
  ·obtain ⟨b,off,x,rfl,hB,HX,A',n',c',e0,e1,e2,e3,e4,e5⟩:=(hx.below hb).zone hlt';go_wp2_with fail;refine (O1 x _ _ _ name g _ (ah hb hlt hg) (Nat.lt_of_lt_of_le hlt hb.size)).mono ?_;rintro e w1 ⟨rfl,hb1⟩;have hbb:=aa hb hb1;clear hb1 e0 e1 e2;cases hz:(x.name.toList==name.toList)
   ·go_wp2;go_roundw
    case rel=>exact ⟨k+1,by omega,by go_num,by rw[HE.out,HX.out,jI,if_neg (by simp[hz])],hbb⟩
    case measure=>simp[intOf];omega
   ·go_wp2;go_ret;exact ⟨ax (by rw[HE.out,HX.out,jI,if_pos hz]),hbb⟩
  ·go_wp2;go_ret;exact ⟨ax (by rw[HE.out,aI hx.len (by omega),jI]),hb⟩
theorem rY (name:ByteArray): ∀(l:List Zone) (k:Nat),jI name k l= -1\/((k:Int)<=jI name k l/\jI name k l<k+l.length)
 | [],k=>.inl rfl
 |z :: l,k=>by
  rw[jI]
  split
  ·exact .inr ⟨by omega,by simp;omega⟩
  ·rcases rY name l (k+1) with h|h
   ·exact .inl h
   ·exact .inr ⟨by omega,by simp;omega⟩
def PY (zs:List Zone)(name:ByteArray)(w:World)(e:Ending):Prop:=
 ∃A n c,e=.returned (.tuple #[.agg #[.string (lh zs name).name,.int .i64 (lh zs name).offset,.slice A n c],.bool (decide (0<=jB zs name))])/\In w A n c (lh zs name).shifts/\eZ (lh zs name).offset
theorem IX {zs:List Zone}{name:ByteArray}(h:jB zs name<0):lh zs name=default:=by rw[lh,if_pos h]
theorem IY {zs:List Zone}{name:ByteArray}{k:Nat}{x:Zone}{l:List Zone}(h:jB zs name=(k:Int))(hx:zs.drop k=x :: l):lh zs name=x:=by
 rw[lh,if_neg (by omega),h,Int.toNat_natCast,List.getD,(bX hx).1];rfl
theorem NQ {α:Type}[Rep α](w:World):In (α:=α) w none 0 0 []:=Sl.nil_
theorem IC {w:World}{g:Nat}{u0 u1 u2:Value}(h0:w.cell? ⟨g,0,none⟩=some u0)(h1:w.cell? ⟨g,1,none⟩=some u1)(h2:w.cell? ⟨g,2,none⟩=some u2):
  (∀a,(w.setCell ⟨g,0,none⟩ a).cell? ⟨g,0,none⟩=some a)/\(∀a b,((w.setCell ⟨g,0,none⟩ a).setCell ⟨g,1,none⟩ b).cell? ⟨g,1,none⟩=some b)/\
  (∀a b c,(((w.setCell ⟨g,0,none⟩ a).setCell ⟨g,1,none⟩ b).setCell ⟨g,2,none⟩ c).cell? ⟨g,2,none⟩=some c):=
 ⟨λa=>cO h0,λa b=>cO (ag h1 (.inr (by omega))),λa b c=>cO (ag (ag h2 (.inr (by omega))) (.inr (by omega)))⟩
theorem Nb (w:World)(A:Option Addr)(n c:Nat)(zs:List Zone)(hx:In w A n c zs)(name:ByteArray):
  Calls Tryz.prog 211 #[.slice A n c,.string name] w λe w'=>PY zs name w' e/\Below w.heap.size w w':=by
 have h63:=hx.le;go_enter Tryz.func211,Tryz.ntmps211;go_wp2_with fail;refine (zq _ _ _ _ zs (hx.below below_alloc2) name w.heap.size (by simp[go_sem]) (by simp;omega)).mono ?_;rintro e w1 ⟨rfl,hb1⟩;have hbb:=aa below_alloc2 hb1;have hin:=hx.below hbb;have d0:=ah (b:=w.heap.size+1) (o:=0) (v:=.string ⟨#[]⟩) hb1 (by simp) (by simp[go_sem]);have d1:=ah (b:=w.heap.size+1) (o:=1) (v:=.int .i64 0) hb1 (by simp) (by simp[go_sem]);have d2:=ah (b:=w.heap.size+1) (o:=2) (v:=.slice none 0 0) hb1 (by simp) (by simp[go_sem]);have F0:=(au hb1).2 (w.heap.size+1) 0 (by simp);have F1:=(au hb1).2 (w.heap.size+1) 1 (by simp);have F2:=(au hb1).2 (w.heap.size+1) 2 (by simp);simp[go_sem]at F0 F1 F2;have HS:=hide (IC d0 d1 d2);clear hb1;rcases rY name zs 0 with hr|⟨hr1,hr2⟩
 ·have HZ:Hid (lh zs name=default):=hide (IX (by rw[jB,hr];omega));have HI:Hid (jB zs name= -1):=hide hr;rw[HI.out];clear hr;go_wp2;refine bodyPost_ret (v:=.tuple #[.agg #[.string ⟨#[]⟩,.int .i64 0,.slice none 0 0],.bool false]) ?_ rfl ?_
  ·obtain ⟨S0,S1,S2⟩:=HS.out;simp[results,Tryz.results211,go_sem,S0,S1,S2]
  ·refine ⟨⟨none,0,0,?_,?_,?_⟩,((hbb.setCell (by simp) _).setCell (by simp) _).setCell (by simp) _⟩
   ·rw[HZ.out,HI.out];rfl
   ·rw[HZ.out];exact NQ _
   ·rw[HZ.out];exact ⟨by show (-9223372036854775808:Int)<=0;omega,by show (0:Int)<=9223372036854775807;omega⟩
 ·obtain ⟨k,hk⟩: ∃k:Nat,jB zs name=(k:Int):=⟨(jB zs name).toNat,by rw[jB];omega⟩;have hkn:k<n:=by have:=hx.len;rw[jB]at hk;omega
  obtain ⟨b,off,x,rfl,hB2,HX,A',n',c',f0,f1,f2,e3,e4,e5⟩:=hx.zone hkn;have e0:=ah hbb hB2 f0;have e1:=ah hbb hB2 f1;have e2:=ah hbb hB2 f2;have HZ:Hid (lh zs name=x):=hide (IY hk HX.out);have HI:Hid (jB zs name=(k:Int)):=hide hk;clear f0 f1 f2;have hne:¬b=w.heap.size+1:=by omega
  rw[HI.out];clear hr1 hr2 hk;go_wp2;refine bodyPost_ret (v:=.tuple #[.agg #[.string x.name,.int .i64 x.offset,.slice A' n' c'],.bool true]) ?_ rfl ?_
  ·obtain ⟨S0,S1,S2⟩:=HS.out;simp[results,Tryz.results211,go_sem,S0,S1,S2]
  ·have HB:=((hbb.setCell (p:=⟨w.heap.size+1,0,none⟩) (by simp) (.string x.name)).setCell (p:=⟨w.heap.size+1,1,none⟩) (by simp) (.int .i64 x.offset)).setCell (p:=⟨w.heap.size+1,2,none⟩) (by simp) (.slice A' n' c');refine ⟨⟨A',n',c',?_,?_,?_⟩,HB⟩
   ·rw[HZ.out,HI.out];simp
   ·rw[HZ.out];exact e3.below HB
   ·rw[HZ.out];exact e5
theorem JY (w:World)(A:Option Addr)(n c:Nat)(es:List Node)(hx:In w A n c es)(hw:Words w)(A1:Option Addr)(n1 c1:Nat)(cols:List Col)(hc:In w A1 n1 c1 cols)(A2:Option Addr)(n2 c2:Nat)(zs:List Zone)(hz:In w A2 n2 c2 zs):
  Calls Tryz.prog 210 #[.slice A n c,.slice A1 n1 c1,.slice A2 n2 c2] w λe w'=>e=.returned (.int .i64 (bI es cols zs))/\Below w.heap.size w w':=by
 have h63:=hz.le;go_enter Tryz.func210,Tryz.ntmps210;go_wp2_with fail;refine (EZ _ _ _ _ es hx hw).mono ?_;rintro e w1 ⟨rfl,hb1⟩;by_cases h1:bK es=0
 ·have HK:Hid (bI es cols zs=if aC cols≠0 then aC cols else Ba zs):=hide (by rw[bI,if_neg (by simp[h1])]);rw[h1];clear h1;go_wp2_with fail;refine (oJ _ _ _ _ cols (hc.below hb1)).mono ?_;rintro e w2 ⟨rfl,hb2⟩;have hbb:=aa hb1 hb2;clear hb1 hb2;by_cases h2:aC cols=0
  ·have vK:Hid (bI es cols zs=ai (λ_ z=>aP z) 0 zs):=hide (by rw[HK.out,if_neg (by simp[h2])];rfl);rw[h2];clear h2;go_wp2;go_loopw [24] (λi wr=> ∃k:Nat,k<=n2/\i=.int .i64 k/\ai (λ_ z=>aP z) 0 zs=ai (λ_ z=>aP z) k (zs.drop k)/\Below w.heap.size w wr) (λi _=>n2-(intOf i).toNat)
   case atStart=>exact ⟨0,Nat.zero_le _,rfl,rfl,hbb⟩
   case round=>
    obtain ⟨k,hk,rfl,heq,hb⟩:=hrel;have HE:=hide heq;clear heq;by_cases hlt:k<n2
    ·obtain ⟨b,off,x,rfl,hB,HX,A',n',c',e0,e1,e2,e3,e4,e5⟩:=(hz.below hb).zone hlt;go_wp2_with fail;refine (O0 _ A' n' c' x (e3.below ae) e5).mono ?_;rintro e w3 ⟨rfl,hb3⟩;have hb4:=aa (aa hb ae) hb3;clear hb3 e0 e1 e2;by_cases h3:aP x=0
     ·have HN:Hid (ai (λ_ z=>aP z) 0 zs=ai (λ_ z=>aP z) (k+1) (zs.drop (k+1))):=hide (by rw[HE.out,HX.out];exact aY h3);rw[h3];clear h3;go_wp2;go_roundw
      case rel=>exact ⟨k+1,by omega,by go_num,HN.out,hb4⟩
      case measure=>simp[intOf];omega
     ·have HN:Hid (aP x=bI es cols zs):=hide (by rw[vK.out,HE.out,HX.out];exact (aK (f:=λ_ z=>aP z) (e:=aP x) rfl h3).symm);have q:(aP x != 0)=true:=by simpa using h3
      clear h3;go_wp2;go_ret;exact ⟨ax HN.out,hb4⟩
    ·go_wp2;go_ret;exact ⟨ax (by rw[vK.out,HE.out,aI hz.len (by omega)];rfl),hb⟩
  ·have HN:Hid (aC cols=bI es cols zs):=hide (by rw[HK.out,if_pos h2]);have q:(aC cols != 0)=true:=by simpa using h2
   clear h2;go_wp2;go_ret;exact ⟨ax HN.out,hbb⟩
 ·have HN:Hid (bK es=bI es cols zs):=hide (by rw[bI,if_pos h1]);have q:(bK es != 0)=true:=by simpa using h1
  clear h1;go_wp2;go_ret;exact ⟨ax HN.out,hb1⟩
theorem CG {n:Node}(h:shaped n=true)(h1:n.op≠1)(h21:n.op≠21):n.op=0\/(2<=n.op/\n.op<=20):=by
 obtain ⟨op,v,nm,ar⟩:=n;have:=jS h;simp only[arity]at this;simp only at h1 h21⊢;by_cases h0:op=0
 ·exact .inl h0
 ·right;revert this
  (repeat' split) <;> omega
theorem In.len2 {α:Type}[Rep α]{w:World}{A:Option Addr}{c:Nat}{xs:List α}(h:In w A 2 c xs): ∃x y b off,xs=[x,y]/\A=some ⟨b,off,none⟩:=by
 obtain ⟨b,off,x,e,_⟩:=h.get (k:=0) (by omega)
 match xs,h.len with
 | [x,y],_=>exact ⟨x,y,b,off,rfl,e⟩
theorem jY (x:Node)(hsh:shaped x=true)(hko:x.ok)(h1:x.op≠1)(h21:x.op≠21)(m:Nat)(hm:arity x.op x.arity=(m:Int))(w:World)(A:Option Addr)(c:Nat)(xs:List Kd)(hx:In w A m c xs):
  Calls Tryz.prog 212 #[.agg x.cells.toArray,.slice A m c] w λe w'=>e=.returned (.tuple #[.agg #[.int .i64 (di x xs).1.kind,.bool (di x xs).1.null],.bool (di x xs).2])/\Below w.heap.size w w':=by
 have hop:=hko.2.2.2.2;obtain ⟨op,⟨kd,nu,st⟩,nm,ar⟩:=x;simp only[GG]at h1 hm hop;clear hsh hko;obtain rfl|rfl|rfl:=hop
 ·exact absurd rfl h1
 ·have e:m=2:=by simp[arity]at hm;omega
  subst e;obtain ⟨x,y,b,off,rfl,rfl⟩:=hx.len2;exact JB 12 (by simp) kd nu ar st nm w b off c x y hx
 ·have e:m=2:=by simp[arity]at hm;omega
  subst e;obtain ⟨x,y,b,off,rfl,rfl⟩:=hx.len2;exact JB 13 (by simp) kd nu ar st nm w b off c x y hx
theorem lY {hs:List Int}{x:Node}{l:List Node}{d:Nat}(h:aS hs (x :: l)=0)(hd:hs.length=d):
  ∃(m r:Nat) (hs':List Int),shaped x=true/\arity x.op x.arity=(m:Int)/\m<=8/\d=r+m/\hs'.length=r+1/\aS hs' l=0:=by
 rw[aS]at h
 split at h
 ·omega
 ·rename_i hn;have hsh:shaped x=true:=by
   cases hq:shaped x
   ·exact absurd (.inl hq) hn
   ·rfl
  have har:¬(hs.length:Int)<arity x.op x.arity:=λq=>hn (.inr q);have hr:=jS hsh;obtain ⟨m,hm⟩: ∃m:Nat,arity x.op x.arity=(m:Int):=⟨(arity x.op x.arity).toNat,by omega⟩
  split at h
  ·omega
  ·have hl:kY x hs.length=d-m:=by rw[kY,hm,hd,Int.toNat_natCast]
   refine ⟨m,d-m,_,hsh,hm,by omega,by omega,?_,h⟩;rw[List.length_append,List.length_take,hl];simp;omega
theorem lX {hs:List Int}{d:Nat}(h:aS hs []=0)(hd:hs.length=d):d=1:=by
 rw[aS]at h
 split at h
 ·omega
 ·omega
theorem ky {es:List Node}(h:bK es=0):es.length<=256/\aS [] es=0:=by
 rw[bK]at h
 split at h
 ·omega
 ·exact ⟨by omega,h⟩
theorem fC {α:Type}[Flat α]{P:Program}(w:World){ops:Array Oper}{o:Oper}{a:Act}{K:Act->World->Prop}{Q:Exit->Act->World->Prop}{E:Prop}(hgd:o.guard=none)(s x:Operand)(t:TypeId)(ho:o.op=.call {callee:=.builtin .append,args:= #[s,x],argTypes:= #[t,t]})(B:Nat)(e:TypeId)(i:TypeInfo)(z:Value)(bytes:Nat)(ht:P.underlying t=some (.slice e))(hi:P.info? e=some i)(hz:i.zero=some z)(hsize:i.size=Rep.size α)(hby:i.bytes=bytes)(hzs:z.cells.size=Rep.size α)(RA:bytes<=256)(A:Option Addr)(c k:Nat)(xs:List α)(hown:Stk B w e A c xs)(hk:k<=xs.length)(hs:a.eval s=.slice A k c)(y:α)(hy:Flat.ok y)(b:Nat)(hx:a.eval x=.slice (some ⟨b,0,none⟩) 1 1)(hc:Jd w b y)(hm:k<=1048576)(hB:B<=w.heap.size)(h: ∀A' c' w',Stk B w' e A' c' (xs.take k++[y])->Below B w w'->(∀g,g<w.heap.size->(Value.slice A k c).ownBlock≠some g->w'.heap[g]?=w.heap[g]?)->K (a.put o.dst (.slice A' (k+1) c')) w'):
  if Region.wanted o (yielded ops a.tmps)=true then Oper.wp P o a w K Q else E:=by
 have hp:=hown.take hk;have hl:(xs.take k).length=k:=by rw[List.length_take];omega
 have hbl:=hp.blk;rw[hl]at hbl;have hr:Src w (Rep.size α) (some ⟨b,0,none⟩) 1 (Flat.cs y):=⟨by rw[Flat.cs_len];omega,λ_=>⟨b,0,rfl,λj u hu=>by rw[Nat.zero_add];exact hc j u hu⟩⟩;refine dB (P:=P) w hgd s x t ho B e i z (Rep.size α) bytes ht hi hz hsize hby hzs Flat.pos (.slice A k c) k ((xs.take k).flatMap Flat.cs) hs (by have:=hp.own;rw[hl]at this;exact this)
  (some ⟨b,0,none⟩) 1 1 (Flat.cs y) hx (by intro h;cases h) hr (Flat.cs_one y) (by simp only[maxLen];omega) ?_ hB ?_
 ·have:(k+1)*bytes<=1048577*256:=Nat.mul_le_mul (by omega) RA;omega
 ·intro v' w1 h1 h2 h3;have hb:Below B w w1:=(Below.refl B w).grown h2 hB (λg hg=>(hbl g hg).2);rcases h1.2 with ⟨_,h5⟩|⟨g,cap,cur,hv,hg,r⟩
  ·omega
  ·subst hv;refine h _ _ _ ⟨?_,?_⟩ hb (λg' hg' hn=>h2.block g' hg' (λe=>hn e.symm))
   ·rw[List.length_append,hl,List.flatMap_append];have e1:[y].flatMap Flat.cs=Flat.cs y:=by simp
    rw[e1];exact h1
   ·intro q hq;rcases List.mem_append.1 hq with hq|hq
    ·exact hp.ok q hq
    ·simp at hq;subst hq;exact hy
end Go.Proofs.YtopjjlmfilgngaaGreatDoor
