/-
  scalar.find and warehouseref9.Zone: the first zone with a name; scalar.check. scalar.typed at any node but a column and a call; what exprErr = 0 says of each node; an append in a region that draws its order.
-/
import Derived.Test.YtopjjlmfilgngaaGreatDoorGao
import Derived.Test.YtopjjlmfilgngaaGreatDoorGas
namespace Go.Proofs.YtopjjlmfilgngaaGreatDoor
set_option maxHeartbeats 2000000
set_option maxRecDepth 100000
open Go.RowKit
set_option linter.unusedSimpArgs false
set_option linter.unusedVariables false
theorem In.zone {w:World}{A:Option Addr}{n c k:Nat}{xs:List Zone}(h:In w A n c xs)(d:k<n): ∃b off x,A=some ⟨b,off,none⟩/\b<w.heap.size/\Hl (xs.drop k=x::xs.drop (k+1))/\
  ∃A' n' c',w.cell? ⟨b,off+k*3,none⟩=some (.string x.name)/\w.cell? ⟨b,off+k*3+1,none⟩=some (.int .i64 x.offset)/\w.cell? ⟨b,off+k*3+2,none⟩=some (.slice A' n' c')/\In w A' n' c' x.shifts/\Str x.name/\jU x.offset:=by
 obtain⟨b,off,x,e,hb,i,j,⟨A',n',c',rfl,hs,g,f⟩,a⟩:=h.get d;exact⟨b,off,x,e,hb,i,A',n',c',a 0 (by simp),a 1 (by simp),a 2 (by simp),hs,g,f⟩
theorem Mo (z:Zone)(A:Option Addr)(n c:Nat)(name:ByteArray)(g:Nat)(w:World)(a:w.cell? ⟨g,0,none⟩=some (.string name))(b:g<w.heap.size):
  Calls Tryz.prog 236 #[.agg #[.string z.name,.int .i64 z.offset,.slice A n c],.pointer (some ⟨g,0,none⟩)] w λe w'=>e=.returned (.bool (z.name.toList==name.toList))/\Below w.heap.size w w':=by
 go_enter Tryz.func236,Tryz.ntmps236;go_wp2;go_ret;exact⟨rfl,fI⟩
theorem zi (w:World)(A:Option Addr)(n c:Nat)(xs:List Zone)(d:In w A n c xs)(name:ByteArray)(g:Nat)(t:w.cell? ⟨g,0,none⟩=some (.string name))(m:g<w.heap.size):
  Calls Tryz.prog 235 #[.slice A n c,.func (.func 236) #[] #[.pointer (some ⟨g,0,none⟩)]] w
   λe w'=>e=.returned (.int .i64 (mH xs name))/\Below w.heap.size w w':=by
 have B:=d.le;go_enter Tryz.func235,Tryz.ntmps235;go_wp2;go_loopw [8] (λi wr=> ∃k:Nat,k<=n/\i=.int .i64 k/\mH xs name=mP name k (xs.drop k)/\Below w.heap.size w wr) (λi _=>n-(intOf i).toNat)
 case atStart=>exact⟨0,Nat.zero_le _,rfl,rfl,Below.refl _ _⟩
 case round=>
  obtain⟨k,D,rfl,l,hb⟩:=hrel;have a:=Hm l;clear l;by_cases u:k<n
  ·obtain⟨b,off,x,rfl,C,f,A',n',c',q,r,s,v,y,z⟩:=(d.below hb).zone u;go_wp2_with fail;refine(Mo x _ _ _ name g _ (fO hb m t) (Nat.lt_of_lt_of_le m hb.size)).mono ?_;rintro e E ⟨rfl,h⟩;have j:=fH hb h;clear h q r s;cases p:(x.name.toList==name.toList)
   ·go_wp2;go_roundw
    case rel=>exact⟨k+1,by omega,by go_num,by rw[a.o,f.o,mP,if_neg (by simp[p])],j⟩
    case measure=>simp[intOf];omega
   ·go_wp2;go_ret;exact⟨fV (by rw[a.o,f.o,mP,if_pos p]),j⟩
  ·go_wp2;go_ret;exact⟨fV (by rw[a.o,gG d.len (by omega),mP]),hb⟩
theorem uz (name:ByteArray): ∀(l:List Zone) (k:Nat),mP name k l= -1\/((k:Int)<=mP name k l/\mP name k l<k+l.length)
 | [],k=>.inl rfl
 |z::l,k=>by
  rw[mP]
  split
  ·exact .inr ⟨by omega,by simp;omega⟩
  ·rcases uz name l (k+1) with h|h
   ·exact .inl h
   ·exact .inr ⟨by omega,by simp;omega⟩
def Mx (zs:List Zone)(name:ByteArray)(w:World)(e:Ending):Prop:=
 ∃A n c,e=.returned (.tuple #[.agg #[.string (oI zs name).name,.int .i64 (oI zs name).offset,.slice A n c],.bool (decide (0<=mH zs name))])/\In w A n c (oI zs name).shifts/\jU (oI zs name).offset
theorem GU {zs:List Zone}{name:ByteArray}(h:mH zs name<0):oI zs name=default:=by rw[oI,if_pos h]
theorem GV {zs:List Zone}{name:ByteArray}{k:Nat}{x:Zone}{l:List Zone}(h:mH zs name=(k:Int))(a:zs.drop k=x::l):oI zs name=x:=by
 rw[oI,if_neg (by omega),h,Int.toNat_natCast,List.getD,(iR a).1];rfl
theorem K8 {α:Type}[Rep α](w:World):In (α:=α) w none 0 0 []:=Sl.nil_
theorem GI {w:World}{g:Nat}{h i j:Value}(d:w.cell? ⟨g,0,none⟩=some h)(e:w.cell? ⟨g,1,none⟩=some i)(f:w.cell? ⟨g,2,none⟩=some j):
  (∀a,(w.setCell ⟨g,0,none⟩ a).cell? ⟨g,0,none⟩=some a)/\(∀a b,((w.setCell ⟨g,0,none⟩ a).setCell ⟨g,1,none⟩ b).cell? ⟨g,1,none⟩=some b)/\
  (∀a b c,(((w.setCell ⟨g,0,none⟩ a).setCell ⟨g,1,none⟩ b).setCell ⟨g,2,none⟩ c).cell? ⟨g,2,none⟩=some c):=
 ⟨λa=>iC d,λa b=>iC (fM e (.inr (by omega))),λa b c=>iC (fM (fM f (.inr (by omega))) (.inr (by omega)))⟩
theorem KI (w:World)(A:Option Addr)(n c:Nat)(zs:List Zone)(h:In w A n c zs)(name:ByteArray):
  Calls Tryz.prog 211 #[.slice A n c,.string name] w λe w'=>Mx zs name w' e/\Below w.heap.size w w':=by
 have Q:=h.le;go_enter Tryz.func211,Tryz.ntmps211;go_wp2_with fail;refine(zi _ _ _ _ zs (h.below below_alloc2) name w.heap.size (by simp[go_sem]) (by simp;omega)).mono ?_;rintro e T ⟨rfl,a⟩;have f:=fH below_alloc2 a;have R:=h.below f;have E:=fO (b:=w.heap.size+1) (o:=0) (v:=.string ⟨#[]⟩) a (by simp) (by simp[go_sem]);have F:=fO (b:=w.heap.size+1) (o:=1) (v:=.int .i64 0) a (by simp) (by simp[go_sem]);have G:=fO (b:=w.heap.size+1) (o:=2) (v:=.slice none 0 0) a (by simp) (by simp[go_sem]);have z:=(fU a).2 (w.heap.size+1) 0 (by simp);have B:=(fU a).2 (w.heap.size+1) 1 (by simp);have C:=(fU a).2 (w.heap.size+1) 2 (by simp);simp[go_sem]at z B C;have t:=Hm (GI E F G);clear a;rcases uz name zs 0 with r|⟨K,L⟩
 ·have d:Hl (oI zs name=default):=Hm (GU (by rw[mH,r];omega));have g:Hl (mH zs name= -1):=Hm r;rw[g.o];clear r;go_wp2;refine bodyPost_ret (v:=.tuple #[.agg #[.string ⟨#[]⟩,.int .i64 0,.slice none 0 0],.bool false]) ?_ rfl ?_
  ·obtain⟨j,l,m⟩:=t.o;simp[results,Tryz.results211,go_sem,j,l,m]
  ·refine⟨⟨none,0,0,?_,?_,?_⟩,((f.setCell (by simp) _).setCell (by simp) _).setCell (by simp) _⟩
   ·rw[d.o,g.o];rfl
   ·rw[d.o];exact K8 _
   ·rw[d.o];exact⟨by show(-9223372036854775808:Int)<=0;omega,by show(0:Int)<=9223372036854775807;omega⟩
 ·obtain⟨k,i⟩: ∃k:Nat,mH zs name=(k:Int):=⟨(mH zs name).toNat,by rw[mH];omega⟩;have J:k<n:=by have:=h.len;rw[mH]at i;omega
  obtain⟨b,off,x,rfl,q,D,A',n',c',u,f1,y,H,P,I⟩:=h.zone J;have M:=fO f q u;have N:=fO f q f1;have O:=fO f q y;have d:Hl (oI zs name=x):=Hm (GV i D.o);have g:Hl (mH zs name=(k:Int)):=Hm i;clear u f1 y;have S:¬b=w.heap.size+1:=by omega
  rw[g.o];clear K L i;go_wp2;refine bodyPost_ret (v:=.tuple #[.agg #[.string x.name,.int .i64 x.offset,.slice A' n' c'],.bool true]) ?_ rfl ?_
  ·obtain⟨j,l,m⟩:=t.o;simp[results,Tryz.results211,go_sem,j,l,m]
  ·have s:=((f.setCell (p:=⟨w.heap.size+1,0,none⟩) (by simp) (.string x.name)).setCell (p:=⟨w.heap.size+1,1,none⟩) (by simp) (.int .i64 x.offset)).setCell (p:=⟨w.heap.size+1,2,none⟩) (by simp) (.slice A' n' c');refine⟨⟨A',n',c',?_,?_,?_⟩,s⟩
   ·rw[d.o,g.o];simp
   ·rw[d.o];exact H.below s
   ·rw[d.o];exact I
theorem Iu (w:World)(A:Option Addr)(n c:Nat)(es:List Node)(L:In w A n c es)(hw:Words w)(p:Option Addr)(D c1:Nat)(cols:List Col)(J:In w p D c1 cols)(A2:Option Addr)(n2 c2:Nat)(zs:List Zone)(m:In w A2 n2 c2 zs):
  Calls Tryz.prog 210 #[.slice A n c,.slice p D c1,.slice A2 n2 c2] w λe w'=>e=.returned (.int .i64 (iK es cols zs))/\Below w.heap.size w w':=by
 have N:=m.le;go_enter Tryz.func210,Tryz.ntmps210;go_wp2_with fail;refine(Ee _ _ _ _ es L hw).mono ?_;rintro e Q ⟨rfl,j⟩;by_cases d:iN es=0
 ·have r:Hl (iK es cols zs=if gu cols≠0 then gu cols else Ag zs):=Hm (by rw[iK,if_neg (by simp[d])]);rw[d];clear d;go_wp2_with fail;refine(qY _ _ _ _ cols (J.below j)).mono ?_;rintro e R ⟨rfl,u⟩;have B:=fH j u;clear j u;by_cases g:gu cols=0
  ·have s:Hl (iK es cols zs=fQ (λ_ z=>gT z) 0 zs):=Hm (by rw[r.o,if_neg (by simp[g])];rfl);rw[g];clear g;go_wp2;go_loopw [24] (λi wr=> ∃k:Nat,k<=n2/\i=.int .i64 k/\fQ (λ_ z=>gT z) 0 zs=fQ (λ_ z=>gT z) k (zs.drop k)/\Below w.heap.size w wr) (λi _=>n2-(intOf i).toNat)
   case atStart=>exact⟨0,Nat.zero_le _,rfl,rfl,B⟩
   case round=>
    obtain⟨k,P,rfl,C,hb⟩:=hrel;have l:=Hm C;clear C;by_cases K:k<n2
    ·obtain⟨b,off,x,rfl,O,t,A',n',c',E,F,G,H,M,I⟩:=(m.below hb).zone K;go_wp2_with fail;refine(Mm _ A' n' c' x (H.below fI) I).mono ?_;rintro e S ⟨rfl,v⟩;have y:=fH (fH hb fI) v;clear v E F G;by_cases h:gT x=0
     ·have a:Hl (fQ (λ_ z=>gT z) 0 zs=fQ (λ_ z=>gT z) (k+1) (zs.drop (k+1))):=Hm (by rw[l.o,t.o];exact ig h);rw[h];clear h;go_wp2;go_roundw
      case rel=>exact⟨k+1,by omega,by go_num,a.o,y⟩
      case measure=>simp[intOf];omega
     ·have a:Hl (gT x=iK es cols zs):=Hm (by rw[s.o,l.o,t.o];exact(gL (f:=λ_ z=>gT z) (e:=gT x) rfl h).symm);have q:(gT x != 0)=true:=by simpa using h
      clear h;go_wp2;go_ret;exact⟨fV a.o,y⟩
    ·go_wp2;go_ret;exact⟨fV (by rw[s.o,l.o,gG m.len (by omega)];rfl),hb⟩
  ·have a:Hl (gu cols=iK es cols zs):=Hm (by rw[r.o,if_pos g]);have q:(gu cols != 0)=true:=by simpa using g
   clear g;go_wp2;go_ret;exact⟨fV a.o,B⟩
 ·have a:Hl (iN es=iK es cols zs):=Hm (by rw[iK,if_pos d]);have q:(iN es != 0)=true:=by simpa using d
  clear d;go_wp2;go_ret;exact⟨fV a.o,j⟩
theorem Cg {n:Node}(h:shaped n=true)(b:n.op≠1)(c:n.op≠21):n.op=0\/(2<=n.op/\n.op<=20):=by
 obtain⟨d,v,nm,e⟩:=n;have:=nu h;simp only[arity]at this;simp only at b c⊢;by_cases a:d=0
 ·exact .inl a
 ·right;revert this
  (repeat' split)<;>omega
theorem In.len2 {α:Type}[Rep α]{w:World}{A:Option Addr}{c:Nat}{xs:List α}(h:In w A 2 c xs): ∃x y b off,xs=[x,y]/\A=some ⟨b,off,none⟩:=by
 obtain⟨b,off,x,e,_⟩:=h.get (k:=0) (by omega)
 match xs,h.len with
 | [x,y],_=>exact⟨x,y,b,off,rfl,e⟩
theorem nH (x:Node)(k:shaped x=true)(h:x.ok)(g:x.op≠1)(l:x.op≠21)(m:Nat)(d:arity x.op x.arity=(m:Int))(w:World)(A:Option Addr)(c:Nat)(xs:List Kd)(a:In w A m c xs):
  Calls Tryz.prog 212 #[.agg x.cells.toArray,.slice A m c] w λe w'=>e=.returned (.tuple #[.agg #[.int .i64 (jc x xs).1.kind,.bool (jc x xs).1.null],.bool (jc x xs).2])/\Below w.heap.size w w':=by
 have i:=h.2.2.2.2;obtain⟨n,⟨kd,j,st⟩,nm,f⟩:=x;simp only[Fq]at g d i;clear k h;obtain rfl|rfl|rfl:=i
 ·exact absurd rfl g
 ·have e:m=2:=by simp[arity]at d;omega
  subst e;obtain⟨x,y,b,off,rfl,rfl⟩:=a.len2;exact Ia 12 (by simp) kd j f st nm w b off c x y a
 ·have e:m=2:=by simp[arity]at d;omega
  subst e;obtain⟨x,y,b,off,rfl,rfl⟩:=a.len2;exact Ia 13 (by simp) kd j f st nm w b off c x y a
theorem pF {hs:List Int}{x:Node}{l:List Node}{d:Nat}(h:gX hs (x::l)=0)(hd:hs.length=d):
  ∃(m r:Nat) (c:List Int),shaped x=true/\arity x.op x.arity=(m:Int)/\m<=8/\d=r+m/\c.length=r+1/\gX c l=0:=by
 rw[gX]at h
 split at h
 ·omega
 ·rename_i b;have e:shaped x=true:=by
   cases g:shaped x
   ·exact absurd (.inl g) b
   ·rfl
  have i:¬(hs.length:Int)<arity x.op x.arity:=λq=>b (.inr q);have j:=nu e;obtain⟨m,a⟩: ∃m:Nat,arity x.op x.arity=(m:Int):=⟨(arity x.op x.arity).toNat,by omega⟩
  split at h
  ·omega
  ·have f:oz x hs.length=d-m:=by rw[oz,a,hd,Int.toNat_natCast]
   refine⟨m,d-m,_,e,a,by omega,by omega,?_,h⟩;rw[List.length_append,List.length_take,f];simp;omega
theorem pE {hs:List Int}{d:Nat}(h:gX hs []=0)(hd:hs.length=d):d=1:=by
 rw[gX]at h
 split at h
 ·omega
 ·omega
theorem nL {es:List Node}(h:iN es=0):es.length<=256/\gX [] es=0:=by
 rw[iN]at h
 split at h
 ·omega
 ·exact⟨by omega,h⟩
theorem kg {α:Type}[Flat α]{P:Program}(w:World){ab:Array Oper}{o:Oper}{a:Act}{K:Act->World->Prop}{Q:Exit->Act->World->Prop}{E:Prop}(L:o.guard=none)(s x:Operand)(t:TypeId)(O:o.op=.call {callee:=.builtin .append,args:= #[s,x],argTypes:= #[t,t]})(B:Nat)(e:TypeId)(i:TypeInfo)(z:Value)(bytes:Nat)(U:P.underlying t=some (.slice e))(hi:P.info? e=some i)(Z:i.zero=some z)(T:i.size=Rep.size α)(H:i.bytes=bytes)(aa:z.cells.size=Rep.size α)(G:bytes<=256)(A:Option Addr)(c k:Nat)(xs:List α)(R:Stk B w e A c xs)(M:k<=xs.length)(hs:a.eval s=.slice A k c)(y:α)(Y:Flat.ok y)(b:Nat)(X:a.eval x=.slice (some ⟨b,0,none⟩) 1 1)(I:GY w b y)(hm:k<=1048576)(p:B<=w.heap.size)(h: ∀A' c' w',Stk B w' e A' c' (xs.take k++[y])->Below B w w'->(∀g,g<w.heap.size->(Value.slice A k c).ownBlock≠some g->w'.heap[g]?=w.heap[g]?)->K (a.put o.dst (.slice A' (k+1) c')) w'):
  if Region.wanted o (yielded ab a.tmps)=true then Oper.wp P o a w K Q else E:=by
 have l:=R.take M;have f:(xs.take k).length=k:=by rw[List.length_take];omega
 have v:=l.blk;rw[f]at v;have S:Src w (Rep.size α) (some ⟨b,0,none⟩) 1 (Flat.cs y):=⟨by rw[Flat.cs_len];omega,λ_=>⟨b,0,rfl,λj u V=>by rw[Nat.zero_add];exact I j u V⟩⟩;refine jl (P:=P) w L s x t O B e i z (Rep.size α) bytes U hi Z T H aa Flat.pos (.slice A k c) k ((xs.take k).flatMap Flat.cs) hs (by have:=l.own;rw[f]at this;exact this)
  (some ⟨b,0,none⟩) 1 1 (Flat.cs y) X (by intro h;cases h) S (Flat.cs_one y) (by simp only[maxLen];omega) ?_ p ?_
 ·have:(k+1)*bytes<=1048577*256:=Nat.mul_le_mul (by omega) G;omega
 ·intro v' w1 m n h3;have hb:Below B w w1:=(Below.refl B w).grown n p (λg C=>(v g C).2);rcases m.2 with ⟨_,h5⟩|⟨g,cap,ac,W,C,r⟩
  ·omega
  ·subst W;refine h _ _ _ ⟨?_,?_⟩ hb (λF J N=>n.block F J (λe=>N e.symm))
   ·rw[List.length_append,f,List.flatMap_append];have D:[y].flatMap Flat.cs=Flat.cs y:=by simp
    rw[D];exact m
   ·intro q d;rcases List.mem_append.1 d with d|d
    ·exact l.ok q d
    ·simp at d;subst d;exact Y
end Go.Proofs.YtopjjlmfilgngaaGreatDoor
