/-
  scalar.find and warehouseref9.Zone: the first zone with a name; scalar.check. scalar.typed: it returns opKd, at OpIf. (Printed by gen_typed.py.) scalar.typed at any node but a column and a call; what exprErr = 0 says of each node; an append in a region that draws its order.
-/
import Derived.Test.YthnelebakkggjaaGreatDoorGaq
import Derived.Test.YthnelebakkggjaaGreatDoorGau
namespace Go.Proofs.YthnelebakkggjaaGreatDoor
set_option maxHeartbeats 4000000
set_option maxRecDepth 100000
open Go.RowKit
set_option linter.unusedSimpArgs false
set_option linter.unusedVariables false
theorem In.zone {w:World}{A:Option Addr}{n c k:Nat}{xs:List Zone}(h:In w A n c xs)(d:k<n): ∃b off x,A=some ⟨b,off,none⟩/\b<w.heap.size/\Hl (xs.drop k=x::xs.drop (k+1))/\
  ∃A' n' c',w.cell? ⟨b,off+k*3,none⟩=some (.string x.name)/\w.cell? ⟨b,off+k*3+1,none⟩=some (.int .i64 x.offset)/\w.cell? ⟨b,off+k*3+2,none⟩=some (.slice A' n' c')/\In w A' n' c' x.shifts/\Str x.name/\jP x.offset:=by
 obtain⟨b,off,x,e,hb,i,j,⟨A',n',c',rfl,hs,g,f⟩,a⟩:=h.get d;exact⟨b,off,x,e,hb,i,A',n',c',a 0 II,a 1 II,a 2 II,hs,g,f⟩
theorem JP (z:Zone)(A:Option Addr)(n c:Nat)(name:ByteArray)(g:Nat)(w:World)(a:w.cell? ⟨g,0,none⟩=some (.string name))(b:g<w.heap.size):
  Calls Tryz.prog 167 #[.agg #[.string z.name,.int .i64 z.offset,.slice A n c],.pointer (some ⟨g,0,none⟩)] w λe w'=>e=.returned (.bool (z.name.toList==name.toList))/\Below w.heap.size w w':=by
 go_enter Tryz.func167,Tryz.ntmps167;go_wp2;go_ret;exact⟨rfl,eB⟩
theorem yR (w:World)(A:Option Addr)(n c:Nat)(xs:List Zone)(d:In w A n c xs)(name:ByteArray)(g:Nat)(t:w.cell? ⟨g,0,none⟩=some (.string name))(m:g<w.heap.size):
  Calls Tryz.prog 166 #[.slice A n c,.func (.func 167) #[] #[.pointer (some ⟨g,0,none⟩)]] w
   λe w'=>e=.returned (.int .i64 (jC xs name))/\Below w.heap.size w w':=by
 have B:=d.le;go_enter Tryz.func166,Tryz.ntmps166;go_wp2;go_loopw [8] (λi wr=> ∃k:Nat,k<=n/\i=.int .i64 k/\jC xs name=kG name k (xs.drop k)/\Below w.heap.size w wr) (λi _=>n-(intOf i).toNat)
 case atStart=>exact⟨0,Nat.zero_le _,rfl,rfl,IJ⟩
 case round=>
  obtain⟨k,D,rfl,l,hb⟩:=hrel;have a:=Hm l;clear l;by_cases u:k<n
  ·obtain⟨b,off,x,rfl,C,f,A',n',c',q,r,s,v,y,z⟩:=(d.b hb).zone u;go_wp2_with fail;refine(JP x _ _ _ name g _ (eG hb m t) (Nat.lt_of_lt_of_le m hb.size)).mono ?_;rintro e E ⟨rfl,h⟩;have j:=eu hb h;clear h q r s;cases p:(x.name.toList==name.toList)
   ·go_wp2;go_roundw
    case rel=>exact⟨k+1,Ho,by go_num,by rw[a.o,f.o,kG,if_neg (by simp[p])],j⟩
    case measure=>simp[intOf];omega
   ·go_wp2;go_ret;exact⟨eQ (by rw[a.o,f.o,kG,if_pos p]),j⟩
  ·go_wp2;go_ret;exact⟨eQ (by rw[a.o,fG d.len Ho,kG]),hb⟩
theorem ui (name:ByteArray): ∀(l:List Zone) (k:Nat),kG name k l= -1\/((k:Int)<=kG name k l/\kG name k l<k+l.length)
 | [],k=>.inl rfl
 |z::l,k=>by
  rw[kG]
  split
  ·exact .inr ⟨Ho,by simp;omega⟩
  ·rcases ui name l (k+1) with h|h
   ·exact .inl h
   ·exact .inr ⟨Ho,by simp;omega⟩
def FP (zs:List Zone)(name:ByteArray)(w:World)(e:Ending):Prop:=
 ∃A n c,e=.returned (.tuple #[.agg #[.string (iw zs name).name,.int .i64 (iw zs name).offset,.slice A n c],.bool (decide (0<=jC zs name))])/\In w A n c (iw zs name).shifts/\jP (iw zs name).offset
theorem zN {zs:List Zone}{name:ByteArray}(h:jC zs name<0):iw zs name=default:=by rw[iw,if_pos h]
theorem zO {zs:List Zone}{name:ByteArray}{k:Nat}{x:Zone}{l:List Zone}(h:jC zs name=(k:Int))(a:zs.drop k=x::l):iw zs name=x:=by
 rw[iw,if_neg Ho,h,Int.toNat_natCast,List.getD,(iI a).1];rfl
theorem C9 {α:Type}[Rep α](w:World):In (α:=α) w none 0 0 []:=Sl.nil_
theorem FC {w:World}{g:Nat}{h i j:Value}(d:w.cell? ⟨g,0,none⟩=some h)(e:w.cell? ⟨g,1,none⟩=some i)(f:w.cell? ⟨g,2,none⟩=some j):
  (∀a,(w.setCell ⟨g,0,none⟩ a).cell? ⟨g,0,none⟩=some a)/\(∀a b,((w.setCell ⟨g,0,none⟩ a).setCell ⟨g,1,none⟩ b).cell? ⟨g,1,none⟩=some b)/\
  (∀a b c,(((w.setCell ⟨g,0,none⟩ a).setCell ⟨g,1,none⟩ b).setCell ⟨g,2,none⟩ c).cell? ⟨g,2,none⟩=some c):=
 ⟨λa=>iY d,λa b=>iY (eD e (.inr Ho)),λa b c=>iY (eD (eD f (.inr Ho)) (.inr Ho))⟩
theorem CR (w:World)(A:Option Addr)(n c:Nat)(zs:List Zone)(h:In w A n c zs)(name:ByteArray):
  Calls Tryz.prog 144 #[.slice A n c,.string name] w λe w'=>FP zs name w' e/\Below w.heap.size w w':=by
 have Q:=h.le;go_enter Tryz.func144,Tryz.ntmps144;go_wp2_with fail;refine(yR _ _ _ _ zs (h.b below_alloc2) name w.heap.size (by simp[go_sem]) (by simp;omega)).mono ?_;rintro e T ⟨rfl,a⟩;have f:=eu below_alloc2 a;have R:=h.b f;have E:=eG (b:=w.heap.size+1) (o:=0) (v:=.string ⟨#[]⟩) a II (by simp[go_sem]);have F:=eG (b:=w.heap.size+1) (o:=1) (v:=.int .i64 0) a II (by simp[go_sem]);have G:=eG (b:=w.heap.size+1) (o:=2) (v:=.slice none 0 0) a II (by simp[go_sem]);have z:=(eO a).2 (w.heap.size+1) 0 II;have B:=(eO a).2 (w.heap.size+1) 1 II;have C:=(eO a).2 (w.heap.size+1) 2 II;simp[go_sem]at z B C;have t:=Hm (FC E F G);clear a;rcases ui name zs 0 with r|⟨K,L⟩
 ·have d:Hl (iw zs name=default):=Hm (zN (by rw[jC,r];omega));have g:Hl (jC zs name= -1):=Hm r;rw[g.o];clear r;go_wp2;refine bodyPost_ret (v:=.tuple #[.agg #[.string ⟨#[]⟩,.int .i64 0,.slice none 0 0],.bool false]) ?_ rfl ?_
  ·obtain⟨j,l,m⟩:=t.o;simp[results,Tryz.results144,go_sem,j,l,m]
  ·refine⟨⟨none,0,0,?_,?_,?_⟩,((f.setCell II _).setCell II _).setCell II _⟩
   ·rw[d.o,g.o];rfl
   ·rw[d.o];exact C9 _
   ·rw[d.o];exact⟨by show(-9223372036854775808:Int)<=0;omega,by show(0:Int)<=9223372036854775807;omega⟩
 ·obtain⟨k,i⟩: ∃k:Nat,jC zs name=(k:Int):=⟨(jC zs name).toNat,by rw[jC];omega⟩;have J:k<n:=by have:=h.len;rw[jC]at i;omega
  obtain⟨b,off,x,rfl,q,D,A',n',c',u,f1,y,H,P,I⟩:=h.zone J;have M:=eG f q u;have N:=eG f q f1;have O:=eG f q y;have d:Hl (iw zs name=x):=Hm (zO i D.o);have g:Hl (jC zs name=(k:Int)):=Hm i;clear u f1 y;have S:¬b=w.heap.size+1:=by omega
  rw[g.o];clear K L i;go_wp2;refine bodyPost_ret (v:=.tuple #[.agg #[.string x.name,.int .i64 x.offset,.slice A' n' c'],.bool true]) ?_ rfl ?_
  ·obtain⟨j,l,m⟩:=t.o;simp[results,Tryz.results144,go_sem,j,l,m]
  ·have s:=((f.setCell (p:=⟨w.heap.size+1,0,none⟩) II (.string x.name)).setCell (p:=⟨w.heap.size+1,1,none⟩) II (.int .i64 x.offset)).setCell (p:=⟨w.heap.size+1,2,none⟩) II (.slice A' n' c');refine⟨⟨A',n',c',?_,?_,?_⟩,s⟩
   ·rw[d.o,g.o];simp
   ·rw[d.o];exact H.b s
   ·rw[d.o];exact I
theorem qR (w:World)(A:Option Addr)(n c:Nat)(zs:List Zone)(j:In w A n c zs)(name:ByteArray):
  Calls Tryz.prog 160 #[.slice A n c,.string name] w λe w'=>FP zs name w' e/\Below w.heap.size w w':=by
 have B:=j.le;go_enter Tryz.func160,Tryz.ntmps160;go_wp2
 go_loop [6] (λi=> ∃k:Nat,k<=n/\i=.int .i64 k/\jC zs name=kG name k (zs.drop k)) (λi=>n-(intOf i).toNat)
 case atStart=>exact⟨0,Nat.zero_le _,rfl,rfl⟩
 case round=>
  obtain⟨k,d,rfl,l⟩:=hrel;have f:=Hm l;clear l;by_cases s:k<n
  ·obtain⟨b,off,x,rfl,C,h,A',n',c',t,u,y,q,z,r⟩:=j.zone s;have D:¬b=w.heap.size:=by omega
   cases p:(x.name.toList==name.toList)
   ·go_wp2
    go_round
    case rel=>exact⟨k+1,Ho,by go_num,by rw[f.o,h.o,kG,if_neg (by simp[p])]⟩
    case measure=>simp[intOf];omega
   ·have d:jC zs name=(k:Int):=by rw[f.o,h.o,kG,if_pos p]
    have a:Hl (iw zs name=x):=Hm (zO d h.o);have g:Hl (jC zs name=(k:Int)):=Hm d;clear d;go_wp2;refine bodyPost_ret (v:=.tuple #[.agg #[.string x.name,.int .i64 x.offset,.slice A' n' c'],.bool true]) ?_ rfl ?_
    ·simp[results,Tryz.results160,go_sem]
    ·refine⟨⟨A',n',c',?_,?_,?_⟩,eB⟩
     ·rw[a.o,g.o];simp
     ·rw[a.o];exact q.b eB
     ·rw[a.o];exact r
  ·have m:jC zs name= -1:=by rw[f.o,fG j.len Ho,kG]
   have a:Hl (iw zs name=default):=Hm (zN Ho);have g:Hl (jC zs name= -1):=Hm m;clear m;go_wp2;refine bodyPost_ret (v:=.tuple #[.agg #[.string ⟨#[]⟩,.int .i64 0,.slice none 0 0],.bool false]) ?_ rfl ?_
   ·simp[results,Tryz.results160,go_sem]
   ·refine⟨⟨none,0,0,?_,?_,?_⟩,eB⟩
    ·rw[a.o,g.o];rfl
    ·rw[a.o];exact C9 _
    ·rw[a.o];exact⟨by show(-9223372036854775808:Int)<=0;omega,by show(0:Int)<=9223372036854775807;omega⟩
theorem Gm (w:World)(A:Option Addr)(n c:Nat)(es:List Node)(N:In w A n c es)(hw:Words w)(r:Option Addr)(F c1:Nat)(cols:List Col)(L:In w r F c1 cols)(s:Option Addr)(j c2:Nat)(zs:List Zone)(p:In w s j c2 zs):
  Calls Tryz.prog 143 #[.slice A n c,.slice r F c1,.slice s j c2] w λe w'=>e=.returned (.int .i64 (gV es cols zs))/\Below w.heap.size w w':=by
 have P:=p.le;go_enter Tryz.func143,Tryz.ntmps143;go_wp2_with fail;refine(CO _ _ _ _ es N hw).mono ?_;rintro e S ⟨rfl,l⟩;by_cases d:gY es=0
 ·have t:Hl (gV es cols zs=if fq cols≠0 then fq cols else zP zs):=Hm (by rw[gV,if_neg (by simp[d])]);rw[d];clear d;go_wp2_with fail;refine(qX _ _ _ _ cols (L.b l)).mono ?_;rintro e T ⟨rfl,y⟩;have D:=eu l y;clear l y;by_cases g:fq cols=0
  ·have u:Hl (gV es cols zs=eH (λ_ z=>fD z) 0 zs):=Hm (by rw[t.o,if_neg (by simp[g])];rfl);rw[g];clear g;go_wp2;go_loopw [24] (λi wr=> ∃k:Nat,k<=j/\i=.int .i64 k/\eH (λ_ z=>fD z) 0 zs=eH (λ_ z=>fD z) k (zs.drop k)/\Below w.heap.size w wr) (λi _=>j-(intOf i).toNat)
   case atStart=>exact⟨0,Nat.zero_le _,rfl,rfl,D⟩
   case round=>
    obtain⟨k,R,rfl,E,hb⟩:=hrel;have m:=Hm E;clear E;by_cases M:k<j
    ·obtain⟨b,off,x,rfl,Q,v,A',n',c',G,H,I,J,O,K⟩:=(p.b hb).zone M;go_wp2_with fail;refine(Ei _ A' n' c' x (J.b eB) K).mono ?_;rintro e U ⟨rfl,B⟩;have C:=eu (eu hb eB) B;clear B G H I;by_cases h:fD x=0
     ·have a:Hl (eH (λ_ z=>fD z) 0 zs=eH (λ_ z=>fD z) (k+1) (zs.drop (k+1))):=Hm (by rw[m.o,v.o];exact gG h);rw[h];clear h;go_wp2;go_roundw
      case rel=>exact⟨k+1,Ho,by go_num,a.o,C⟩
      case measure=>simp[intOf];omega
     ·have a:Hl (fD x=gV es cols zs):=Hm (by rw[u.o,m.o,v.o];exact(fI (f:=λ_ z=>fD z) (e:=fD x) rfl h).symm);have q:(fD x != 0)=true:=by simpa using h
      clear h;go_wp2;go_ret;exact⟨eQ a.o,C⟩
    ·go_wp2;go_ret;exact⟨eQ (by rw[u.o,m.o,fG p.len Ho];rfl),hb⟩
  ·have a:Hl (fq cols=gV es cols zs):=Hm (by rw[t.o,if_pos g]);have q:(fq cols != 0)=true:=by simpa using g
   clear g;go_wp2;go_ret;exact⟨eQ a.o,D⟩
 ·have a:Hl (gY es=gV es cols zs):=Hm (by rw[gV,if_pos d]);have q:(gY es != 0)=true:=by simpa using d
  clear d;go_wp2;go_ret;exact⟨eQ a.o,l⟩
theorem D9 (kd m k:Int)(st nm:ByteArray)(w:World)(b off:Nat)(c:Nat)(x:Kd)(h:Int)(i:Int)(j:Bool)(Q:(common ⟨h,false⟩ ⟨i,j⟩).2=false)(l:In w (some ⟨b,off,none⟩) 3 c ([x,⟨h,false⟩,⟨i,j⟩]:List Kd)):
  Calls Tryz.prog 145 #[.agg (gT 17 kd m st nm k),.slice (some ⟨b,off,none⟩) 3 c] w λe w'=>e=.returned (.tuple #[.agg (fJ ⟨17,⟨kd,m,st⟩,nm,k⟩ ([x,⟨h,false⟩,⟨i,j⟩]:List Kd)).1.cells.toArray,.bool (fJ ⟨17,⟨kd,m,st⟩,nm,k⟩ ([x,⟨h,false⟩,⟨i,j⟩]:List Kd)).2])/\Below w.heap.size w w':=by
 obtain⟨d,q,r⟩:=gq l (show 0<3 by omega) (x:=x) rfl;obtain⟨H,I⟩:=x;obtain⟨d,s,t⟩:=gq l (show 1<3 by omega) (x:=⟨h,false⟩) rfl;obtain⟨d,u,y⟩:=gq l (show 2<3 by omega) (x:=⟨i,j⟩) rfl;simp only[Nat.zero_mul,Nat.one_mul,Nat.add_zero,Nat.reduceMul]at q r s t u y;simp only[gT];go_enter Tryz.func145,Tryz.ntmps145;go_wp2_with (go_at_call 168;refine(iJ _ _ _ _ _ (l.b below_alloc2)).mono ?_;rintro e w0 ⟨rfl,p⟩;have a:=eu below_alloc2 p;have f:=p;obtain⟨O,R⟩:=eO p;have G:=Hm (gH (eG (b:=w.heap.size+1) (o:=0) (v:=.int .i64 0) f II (by simp[go_sem])) (eG (b:=w.heap.size+1) (o:=1) (v:=.bool false) f II (by simp[go_sem])));have S:=eG a d q;have T:=eG a d r;have C:=eG a d s;have D:=eG a d t;have E:=eG a d u;have F:=eG a d y;clear p);have n:=Nat.lt_of_lt_of_le d a.size;go_region_held3 (λV=>V.cell? ⟨b,off+2,none⟩=some (.int .i64 h)/\V.cell? ⟨b,off+2+1,none⟩=some (.bool false)/\V.cell? ⟨b,off+4,none⟩=some (.int .i64 i)/\V.cell? ⟨b,off+4+1,none⟩=some (.bool j)) (first|exact⟨C,D,E,F⟩|(have g:=eF z;exact⟨eG g n C,eG g n D,eG g n E,eG g n F⟩)) (first|(go_at_call 171;refine(pX _ _ _ _ _).mono ?_;rintro e B ⟨rfl,z⟩));have g:=eF z;have a:=eu a g;have f:=eu f g;clear g z;obtain⟨P,A⟩:=eO f;have G:=Hm (gH (eG (b:=w.heap.size+1) (o:=0) (v:=.int .i64 0) f II (by simp[go_sem])) (eG (b:=w.heap.size+1) (o:=1) (v:=.bool false) f II (by simp[go_sem])));have S:=eG a d q;have T:=eG a d r;have C:=eG a d s;have D:=eG a d t;have E:=eG a d u;have F:=eG a d y;have X:=Nat.lt_of_lt_of_le d a.size;have Z:¬b=w.heap.size+1:=by omega
 have Y:w.heap.size+1<B.heap.size:=by have:=f.size;simp at this;omega
 have M:=eG (b:=w.heap.size+1) (o:=0) (v:=.int .i64 0) f II (by simp[go_sem]);have N:=eG (b:=w.heap.size+1) (o:=1) (v:=.bool false) f II (by simp[go_sem]);have U:B.frozen? ⟨w.heap.size+1,0,none⟩=false:=by rw[A _ _ II];simp[go_sem]
 have W:B.frozen? ⟨w.heap.size+1,1,none⟩=false:=by rw[A _ _ II];simp[go_sem]
 have J:=Hm a;clear O R P A f a G d q r s t u y l;go_wp2;go_region;all_goals
  go_wp2;refine bodyPost_ret (v:=.tuple #[.agg (fJ ⟨17,⟨kd,m,st⟩,nm,k⟩ ([⟨H,I⟩,⟨h,false⟩,⟨i,j⟩]:List Kd)).1.cells.toArray,.bool (fJ ⟨17,⟨kd,m,st⟩,nm,k⟩ ([⟨H,I⟩,⟨h,false⟩,⟨i,j⟩]:List Kd)).2]) ?_ rfl ?_
  ·obtain⟨K,L⟩:=gH M N;simp[results,Tryz.results145,go_sem,K,L];all_goals(simp[fJ,Kd.cells,Q])
  ·exact⟨rfl,by exact(J.o.drew.setCell (by simp<;>omega) _).setCell (by simp<;>omega) _⟩
theorem Ea (kd s q:Int)(st nm:ByteArray)(w:World)(b off:Nat)(c:Nat)(x:Kd)(j:Int)(k:Int)(i:Bool)(U:(common ⟨j,false⟩ ⟨k,i⟩).2=true)(r:In w (some ⟨b,off,none⟩) 3 c ([x,⟨j,false⟩,⟨k,i⟩]:List Kd)):
  Calls Tryz.prog 145 #[.agg (gT 17 kd s st nm q),.slice (some ⟨b,off,none⟩) 3 c] w λe w'=>e=.returned (.tuple #[.agg (fJ ⟨17,⟨kd,s,st⟩,nm,q⟩ ([x,⟨j,false⟩,⟨k,i⟩]:List Kd)).1.cells.toArray,.bool (fJ ⟨17,⟨kd,s,st⟩,nm,q⟩ ([x,⟨j,false⟩,⟨k,i⟩]:List Kd)).2])/\Below w.heap.size w w':=by
 obtain⟨f,D,E⟩:=gq r (show 0<3 by omega) (x:=x) rfl;obtain⟨N,O⟩:=x;obtain⟨f,H,I⟩:=gq r (show 1<3 by omega) (x:=⟨j,false⟩) rfl;obtain⟨f,J,K⟩:=gq r (show 2<3 by omega) (x:=⟨k,i⟩) rfl;simp only[Nat.zero_mul,Nat.one_mul,Nat.add_zero,Nat.reduceMul]at D E H I J K;simp only[gT];go_enter Tryz.func145,Tryz.ntmps145;go_wp2_with (go_at_call 168;refine(iJ _ _ _ _ _ (r.b below_alloc2)).mono ?_;rintro e w0 ⟨rfl,B⟩;have a:=eu below_alloc2 B;have h:=B;obtain⟨ac,ae⟩:=eO B;have S:=Hm (gH (eG (b:=w.heap.size+1) (o:=0) (v:=.int .i64 0) h II (by simp[go_sem])) (eG (b:=w.heap.size+1) (o:=1) (v:=.bool false) h II (by simp[go_sem])));have F:=eG a f D;have G:=eG a f E;have P:=eG a f H;have n:=eG a f I;have Q:=eG a f J;have p:=eG a f K;clear B);have y:=Nat.lt_of_lt_of_le f a.size;go_region_held3 (λV=>V.cell? ⟨b,off+2,none⟩=some (.int .i64 j)/\V.cell? ⟨b,off+2+1,none⟩=some (.bool false)/\V.cell? ⟨b,off+4,none⟩=some (.int .i64 k)/\V.cell? ⟨b,off+4+1,none⟩=some (.bool i)) (first|exact⟨P,n,Q,p⟩|(have d:=eF L;exact⟨eG d y P,eG d y n,eG d y Q,eG d y p⟩)) (first|(go_at_call 171;refine(pX _ _ _ _ _).mono ?_;rintro e C ⟨rfl,L⟩));have d:=eF L;have a:=eu a d;have h:=eu h d;clear d L;obtain⟨ad,M⟩:=eO h;have S:=Hm (gH (eG (b:=w.heap.size+1) (o:=0) (v:=.int .i64 0) h II (by simp[go_sem])) (eG (b:=w.heap.size+1) (o:=1) (v:=.bool false) h II (by simp[go_sem])));have F:=eG a f D;have G:=eG a f E;have P:=eG a f H;have n:=eG a f I;have Q:=eG a f J;have p:=eG a f K;have z:=Nat.lt_of_lt_of_le f a.size;have g:¬b=w.heap.size+1:=by omega
 have A:w.heap.size+1<C.heap.size:=by have:=h.size;simp at this;omega
 have t:=eG (b:=w.heap.size+1) (o:=0) (v:=.int .i64 0) h II (by simp[go_sem]);have u:=eG (b:=w.heap.size+1) (o:=1) (v:=.bool false) h II (by simp[go_sem]);have F0:C.frozen? ⟨w.heap.size+1,0,none⟩=false:=by rw[M _ _ II];simp[go_sem]
 have F1:C.frozen? ⟨w.heap.size+1,1,none⟩=false:=by rw[M _ _ II];simp[go_sem]
 have R:=Hm a;clear ac ae ad M h a S f D E H I J K r;go_wp2
 first|(go_region_held3 (λV=>V.cell? ⟨b,off,none⟩=some (.int .i64 N)/\V.cell? ⟨b,off+1,none⟩=some (.bool O)/\V.cell? ⟨b,off+2+1,none⟩=some (.bool false)/\V.cell? ⟨b,off+4+1,none⟩=some (.bool i)) (first|exact⟨F,G,n,p⟩|exact⟨W,X,Y,Z⟩|exact⟨eD (eD F (.inl g)) (.inl g),eD (eD G (.inl g)) (.inl g),eD (eD n (.inl g)) (.inl g),eD (eD p (.inl g)) (.inl g)⟩|exact⟨eD (eD W (.inl g)) (.inl g),eD (eD X (.inl g)) (.inl g),eD (eD Y (.inl g)) (.inl g),eD (eD Z (.inl g)) (.inl g)⟩) (first|(go_at_call 170;refine(oH _ _ _ _).mono ?_;rintro e w2 ⟨rfl,T⟩;have d:=eF T;have W:=eG d z F;have X:=eG d z G;have Y:=eG d z n;have Z:=eG d z p;have aa:=eG d A t;have ab:=eG d A u;have af:=((eO d).2 _ _ A).trans F0;have ag:=((eO d).2 _ _ A).trans F1;clear T)))|fail
 all_goals
  go_wp2;refine bodyPost_ret (v:=.tuple #[.agg (fJ ⟨17,⟨kd,s,st⟩,nm,q⟩ ([⟨N,O⟩,⟨j,false⟩,⟨k,i⟩]:List Kd)).1.cells.toArray,.bool (fJ ⟨17,⟨kd,s,st⟩,nm,q⟩ ([⟨N,O⟩,⟨j,false⟩,⟨k,i⟩]:List Kd)).2]) ?_ rfl ?_
  ·first|(obtain⟨l,m⟩:=gH aa ab;simp[results,Tryz.results145,go_sem,l,m])|(obtain⟨l,m⟩:=gH t u;simp[results,Tryz.results145,go_sem,l,m];done)|(obtain⟨l,m⟩:=gH t u;simp[results,Tryz.results145,go_sem,l,m];(simp[fJ,Kd.cells,U];done))|(obtain⟨l,m⟩:=gH (w:=C.drew) (u0:=.int .i64 0) (u1:=.bool false) (by simpa using t) (by simpa using u);simp[results,Tryz.results145,go_sem,l,m])
   all_goals(simp[fJ,Kd.cells,U])
  ·exact⟨rfl,by first|exact((eu R.o d).setCell (by simp<;>omega) _).setCell (by simp<;>omega) _|exact(R.o.drew.setCell (by simp<;>omega) _).setCell (by simp<;>omega) _⟩
theorem Eb (kd m k:Int)(st nm:ByteArray)(w:World)(b off:Nat)(c:Nat)(x:Kd)(h:Int)(i:Int)(j:Bool)(Q:(common ⟨h,true⟩ ⟨i,j⟩).2=false)(l:In w (some ⟨b,off,none⟩) 3 c ([x,⟨h,true⟩,⟨i,j⟩]:List Kd)):
  Calls Tryz.prog 145 #[.agg (gT 17 kd m st nm k),.slice (some ⟨b,off,none⟩) 3 c] w λe w'=>e=.returned (.tuple #[.agg (fJ ⟨17,⟨kd,m,st⟩,nm,k⟩ ([x,⟨h,true⟩,⟨i,j⟩]:List Kd)).1.cells.toArray,.bool (fJ ⟨17,⟨kd,m,st⟩,nm,k⟩ ([x,⟨h,true⟩,⟨i,j⟩]:List Kd)).2])/\Below w.heap.size w w':=by
 obtain⟨d,q,r⟩:=gq l (show 0<3 by omega) (x:=x) rfl;obtain⟨H,I⟩:=x;obtain⟨d,s,t⟩:=gq l (show 1<3 by omega) (x:=⟨h,true⟩) rfl;obtain⟨d,u,y⟩:=gq l (show 2<3 by omega) (x:=⟨i,j⟩) rfl;simp only[Nat.zero_mul,Nat.one_mul,Nat.add_zero,Nat.reduceMul]at q r s t u y;simp only[gT];go_enter Tryz.func145,Tryz.ntmps145;go_wp2_with (go_at_call 168;refine(iJ _ _ _ _ _ (l.b below_alloc2)).mono ?_;rintro e w0 ⟨rfl,p⟩;have a:=eu below_alloc2 p;have f:=p;obtain⟨O,R⟩:=eO p;have G:=Hm (gH (eG (b:=w.heap.size+1) (o:=0) (v:=.int .i64 0) f II (by simp[go_sem])) (eG (b:=w.heap.size+1) (o:=1) (v:=.bool false) f II (by simp[go_sem])));have S:=eG a d q;have T:=eG a d r;have C:=eG a d s;have D:=eG a d t;have E:=eG a d u;have F:=eG a d y;clear p);have n:=Nat.lt_of_lt_of_le d a.size;go_region_held3 (λV=>V.cell? ⟨b,off+2,none⟩=some (.int .i64 h)/\V.cell? ⟨b,off+2+1,none⟩=some (.bool true)/\V.cell? ⟨b,off+4,none⟩=some (.int .i64 i)/\V.cell? ⟨b,off+4+1,none⟩=some (.bool j)) (first|exact⟨C,D,E,F⟩|(have g:=eF z;exact⟨eG g n C,eG g n D,eG g n E,eG g n F⟩)) (first|(go_at_call 171;refine(pX _ _ _ _ _).mono ?_;rintro e B ⟨rfl,z⟩));have g:=eF z;have a:=eu a g;have f:=eu f g;clear g z;obtain⟨P,A⟩:=eO f;have G:=Hm (gH (eG (b:=w.heap.size+1) (o:=0) (v:=.int .i64 0) f II (by simp[go_sem])) (eG (b:=w.heap.size+1) (o:=1) (v:=.bool false) f II (by simp[go_sem])));have S:=eG a d q;have T:=eG a d r;have C:=eG a d s;have D:=eG a d t;have E:=eG a d u;have F:=eG a d y;have X:=Nat.lt_of_lt_of_le d a.size;have Z:¬b=w.heap.size+1:=by omega
 have Y:w.heap.size+1<B.heap.size:=by have:=f.size;simp at this;omega
 have M:=eG (b:=w.heap.size+1) (o:=0) (v:=.int .i64 0) f II (by simp[go_sem]);have N:=eG (b:=w.heap.size+1) (o:=1) (v:=.bool false) f II (by simp[go_sem]);have U:B.frozen? ⟨w.heap.size+1,0,none⟩=false:=by rw[A _ _ II];simp[go_sem]
 have W:B.frozen? ⟨w.heap.size+1,1,none⟩=false:=by rw[A _ _ II];simp[go_sem]
 have J:=Hm a;clear O R P A f a G d q r s t u y l;go_wp2;go_region;all_goals
  go_wp2;refine bodyPost_ret (v:=.tuple #[.agg (fJ ⟨17,⟨kd,m,st⟩,nm,k⟩ ([⟨H,I⟩,⟨h,true⟩,⟨i,j⟩]:List Kd)).1.cells.toArray,.bool (fJ ⟨17,⟨kd,m,st⟩,nm,k⟩ ([⟨H,I⟩,⟨h,true⟩,⟨i,j⟩]:List Kd)).2]) ?_ rfl ?_
  ·obtain⟨K,L⟩:=gH M N;simp[results,Tryz.results145,go_sem,K,L];all_goals(simp[fJ,Kd.cells,Q])
  ·exact⟨rfl,by exact(J.o.drew.setCell (by simp<;>omega) _).setCell (by simp<;>omega) _⟩
theorem Ec (kd p m:Int)(st nm:ByteArray)(w:World)(b off:Nat)(c:Nat)(x:Kd)(h:Int)(i:Int)(j:Bool)(P:(common ⟨h,true⟩ ⟨i,j⟩).2=true)(n:In w (some ⟨b,off,none⟩) 3 c ([x,⟨h,true⟩,⟨i,j⟩]:List Kd)):
  Calls Tryz.prog 145 #[.agg (gT 17 kd p st nm m),.slice (some ⟨b,off,none⟩) 3 c] w λe w'=>e=.returned (.tuple #[.agg (fJ ⟨17,⟨kd,p,st⟩,nm,m⟩ ([x,⟨h,true⟩,⟨i,j⟩]:List Kd)).1.cells.toArray,.bool (fJ ⟨17,⟨kd,p,st⟩,nm,m⟩ ([x,⟨h,true⟩,⟨i,j⟩]:List Kd)).2])/\Below w.heap.size w w':=by
 obtain⟨f,A,B⟩:=gq n (show 0<3 by omega) (x:=x) rfl;obtain⟨S,T⟩:=x;obtain⟨f,C,D⟩:=gq n (show 1<3 by omega) (x:=⟨h,true⟩) rfl;obtain⟨f,F,G⟩:=gq n (show 2<3 by omega) (x:=⟨i,j⟩) rfl;simp only[Nat.zero_mul,Nat.one_mul,Nat.add_zero,Nat.reduceMul]at A B C D F G;simp only[gT];go_enter Tryz.func145,Tryz.ntmps145;go_wp2_with (go_at_call 168;refine(iJ _ _ _ _ _ (n.b below_alloc2)).mono ?_;rintro e w0 ⟨rfl,y⟩;have a:=eu below_alloc2 y;have g:=y;obtain⟨Z,ab⟩:=eO y;have N:=Hm (gH (eG (b:=w.heap.size+1) (o:=0) (v:=.int .i64 0) g II (by simp[go_sem])) (eG (b:=w.heap.size+1) (o:=1) (v:=.bool false) g II (by simp[go_sem])));have Q:=eG a f A;have R:=eG a f B;have K:=eG a f C;have E:=eG a f D;have L:=eG a f F;have H:=eG a f G;clear y);have s:=Nat.lt_of_lt_of_le f a.size;go_region_held3 (λV=>V.cell? ⟨b,off+2,none⟩=some (.int .i64 h)/\V.cell? ⟨b,off+2+1,none⟩=some (.bool true)/\V.cell? ⟨b,off+4,none⟩=some (.int .i64 i)/\V.cell? ⟨b,off+4+1,none⟩=some (.bool j)) (first|exact⟨K,E,L,H⟩|(have d:=eF I;exact⟨eG d s K,eG d s E,eG d s L,eG d s H⟩)) (first|(go_at_call 171;refine(pX _ _ _ _ _).mono ?_;rintro e z ⟨rfl,I⟩));have d:=eF I;have a:=eu a d;have g:=eu g d;clear d I;obtain⟨aa,J⟩:=eO g;have N:=Hm (gH (eG (b:=w.heap.size+1) (o:=0) (v:=.int .i64 0) g II (by simp[go_sem])) (eG (b:=w.heap.size+1) (o:=1) (v:=.bool false) g II (by simp[go_sem])));have Q:=eG a f A;have R:=eG a f B;have K:=eG a f C;have E:=eG a f D;have L:=eG a f F;have H:=eG a f G;have t:=Nat.lt_of_lt_of_le f a.size;have ae:¬b=w.heap.size+1:=by omega
 have u:w.heap.size+1<z.heap.size:=by have:=g.size;simp at this;omega
 have q:=eG (b:=w.heap.size+1) (o:=0) (v:=.int .i64 0) g II (by simp[go_sem]);have r:=eG (b:=w.heap.size+1) (o:=1) (v:=.bool false) g II (by simp[go_sem]);have U:z.frozen? ⟨w.heap.size+1,0,none⟩=false:=by rw[J _ _ II];simp[go_sem]
 have W:z.frozen? ⟨w.heap.size+1,1,none⟩=false:=by rw[J _ _ II];simp[go_sem]
 have M:=Hm a;clear Z ab aa J g a N f A B C D F G n;go_wp2
 first|(go_region_with (first|(go_at_call 170;refine(oH _ _ _ _).mono ?_;rintro e w2 ⟨rfl,O⟩;have d:=eF O;have af:=eG d t Q;have ag:=eG d t R;have ah:=eG d t E;have ai:=eG d t H;have X:=eG d u q;have Y:=eG d u r;have ac:=((eO d).2 _ _ u).trans U;have ad:=((eO d).2 _ _ u).trans W;clear O)))|fail
 all_goals
  go_wp2;refine bodyPost_ret (v:=.tuple #[.agg (fJ ⟨17,⟨kd,p,st⟩,nm,m⟩ ([⟨S,T⟩,⟨h,true⟩,⟨i,j⟩]:List Kd)).1.cells.toArray,.bool (fJ ⟨17,⟨kd,p,st⟩,nm,m⟩ ([⟨S,T⟩,⟨h,true⟩,⟨i,j⟩]:List Kd)).2]) ?_ rfl ?_
  ·first|(obtain⟨k,l⟩:=gH X Y;simp[results,Tryz.results145,go_sem,k,l])|(obtain⟨k,l⟩:=gH q r;simp[results,Tryz.results145,go_sem,k,l];done)|(obtain⟨k,l⟩:=gH q r;simp[results,Tryz.results145,go_sem,k,l];(simp[fJ,Kd.cells,P];done))|(obtain⟨k,l⟩:=gH (w:=z.drew) (u0:=.int .i64 0) (u1:=.bool false) (by simpa using q) (by simpa using r);simp[results,Tryz.results145,go_sem,k,l])
   all_goals(simp[fJ,Kd.cells,P])
  ·exact⟨rfl,by first|exact((eu M.o d).setCell (by simp<;>omega) _).setCell (by simp<;>omega) _|exact(M.o.drew.setCell (by simp<;>omega) _).setCell (by simp<;>omega) _⟩
theorem JI (kd d a:Int)(st nm:ByteArray)(w:World)(b off:Nat)(c:Nat)(x y z:Kd)(j:In w (some ⟨b,off,none⟩) 3 c ([x,y,z]:List Kd)):
  Calls Tryz.prog 145 #[.agg (gT 17 kd d st nm a),.slice (some ⟨b,off,none⟩) 3 c] w λe w'=>e=.returned (.tuple #[.agg (fJ ⟨17,⟨kd,d,st⟩,nm,a⟩ ([x,y,z]:List Kd)).1.cells.toArray,.bool (fJ ⟨17,⟨kd,d,st⟩,nm,a⟩ ([x,y,z]:List Kd)).2])/\Below w.heap.size w w':=by
 obtain⟨f,k⟩:=y;obtain⟨g,h⟩:=z;cases k
 ·cases i:(common ⟨f,false⟩ ⟨g,h⟩).2
  ·exact D9 kd d a st nm w b off c x f g h i j
  ·exact Ea kd d a st nm w b off c x f g h i j
 ·cases i:(common ⟨f,true⟩ ⟨g,h⟩).2
  ·exact Eb kd d a st nm w b off c x f g h i j
  ·exact Ec kd d a st nm w b off c x f g h i j
theorem pM {n:Node}(h:shaped n=true)(b:n.op≠1)(c:n.op≠21):n.op=0\/(2<=n.op/\n.op<=20):=by
 obtain⟨d,v,nm,e⟩:=n;have:=mU h;simp only[arity]at this;simp only at b c⊢;by_cases a:d=0
 ·exact .inl a
 ·right;revert this
  (repeat' split)<;>omega
theorem In.len1 {α:Type}[Rep α]{w:World}{A:Option Addr}{c:Nat}{xs:List α}(h:In w A 1 c xs): ∃x b off,xs=[x]/\A=some ⟨b,off,none⟩:=by
 obtain⟨b,off,x,e,_⟩:=h.get (k:=0) Ho
 match xs,h.len with
 | [x],_=>exact⟨x,b,off,rfl,e⟩
theorem In.len2 {α:Type}[Rep α]{w:World}{A:Option Addr}{c:Nat}{xs:List α}(h:In w A 2 c xs): ∃x y b off,xs=[x,y]/\A=some ⟨b,off,none⟩:=by
 obtain⟨b,off,x,e,_⟩:=h.get (k:=0) Ho
 match xs,h.len with
 | [x,y],_=>exact⟨x,y,b,off,rfl,e⟩
theorem In.len3 {α:Type}[Rep α]{w:World}{A:Option Addr}{c:Nat}{xs:List α}(h:In w A 3 c xs): ∃x y z b off,xs=[x,y,z]/\A=some ⟨b,off,none⟩:=by
 obtain⟨b,off,x,e,_⟩:=h.get (k:=0) Ho
 match xs,h.len with
 | [x,y,z],_=>exact⟨x,y,z,b,off,rfl,e⟩
theorem In.len0 {α:Type}[Rep α]{w:World}{A:Option Addr}{c:Nat}{xs:List α}(h:In w A 0 c xs):xs=[]:=List.eq_nil_of_length_eq_zero h.len
theorem nz (x:Node)(l:shaped x=true)(o:x.ok)(i:x.op≠1)(j:x.op≠21)(m:Nat)(d:arity x.op x.arity=(m:Int))(w:World)(A:Option Addr)(c:Nat)(xs:List Kd)(a:In w A m c xs):
  Calls Tryz.prog 145 #[.agg x.cells.toArray,.slice A m c] w λe w'=>e=.returned (.tuple #[.agg #[.int .i64 (fJ x xs).1.kind,.bool (fJ x xs).1.null],.bool (fJ x xs).2])/\Below w.heap.size w w':=by
 have k:=pM l i j;obtain⟨h,⟨kd,g,st⟩,nm,f⟩:=x;simp only at k i j d;clear l i j;rcases k with rfl|⟨p,n⟩
 ·have e:m=0:=by simp[arity]at d;omega
  subst e;obtain rfl:=a.len0;exact Lh kd g f st nm w A c a
 obtain rfl|rfl|rfl|rfl|rfl|rfl|rfl|rfl|rfl|rfl|rfl|rfl|rfl|rfl|rfl|rfl|rfl|rfl|rfl:h=2\/h=3\/h=4\/h=5\/h=6\/h=7\/h=8\/h=9\/h=10\/h=11\/h=12\/h=13\/h=14\/h=15\/h=16\/h=17\/h=18\/h=19\/h=20:=by omega
 ·have e:m=1:=by simp[arity]at d;omega
  subst e;obtain⟨x,b,off,rfl,rfl⟩:=a.len1;exact Li kd g f st nm w b off c x a
 ·have e:m=1:=by simp[arity]at d;omega
  subst e;obtain⟨x,b,off,rfl,rfl⟩:=a.len1;exact ym 3 II kd g f st nm w b off c x a
 ·have e:m=2:=by simp[arity]at d;omega
  subst e;obtain⟨x,y,b,off,rfl,rfl⟩:=a.len2;exact yj 4 II kd g f st nm w b off c x y a
 ·have e:m=2:=by simp[arity]at d;omega
  subst e;obtain⟨x,y,b,off,rfl,rfl⟩:=a.len2;exact yj 5 II kd g f st nm w b off c x y a
 ·have e:m=2:=by simp[arity]at d;omega
  subst e;obtain⟨x,y,b,off,rfl,rfl⟩:=a.len2;exact yj 6 II kd g f st nm w b off c x y a
 ·have e:m=2:=by simp[arity]at d;omega
  subst e;obtain⟨x,y,b,off,rfl,rfl⟩:=a.len2;exact yj 7 II kd g f st nm w b off c x y a
 ·have e:m=2:=by simp[arity]at d;omega
  subst e;obtain⟨x,y,b,off,rfl,rfl⟩:=a.len2;exact yl 8 II kd g f st nm w b off c x y a
 ·have e:m=2:=by simp[arity]at d;omega
  subst e;obtain⟨x,y,b,off,rfl,rfl⟩:=a.len2;exact yl 9 II kd g f st nm w b off c x y a
 ·have e:m=2:=by simp[arity]at d;omega
  subst e;obtain⟨x,y,b,off,rfl,rfl⟩:=a.len2;exact ww 10 II kd g f st nm w b off c x y a
 ·have e:m=2:=by simp[arity]at d;omega
  subst e;obtain⟨x,y,b,off,rfl,rfl⟩:=a.len2;exact ww 11 II kd g f st nm w b off c x y a
 ·have e:m=2:=by simp[arity]at d;omega
  subst e;obtain⟨x,y,b,off,rfl,rfl⟩:=a.len2;exact ww 12 II kd g f st nm w b off c x y a
 ·have e:m=2:=by simp[arity]at d;omega
  subst e;obtain⟨x,y,b,off,rfl,rfl⟩:=a.len2;exact ww 13 II kd g f st nm w b off c x y a
 ·have e:m=2:=by simp[arity]at d;omega
  subst e;obtain⟨x,y,b,off,rfl,rfl⟩:=a.len2;exact yl 14 II kd g f st nm w b off c x y a
 ·have e:m=2:=by simp[arity]at d;omega
  subst e;obtain⟨x,y,b,off,rfl,rfl⟩:=a.len2;exact yl 15 II kd g f st nm w b off c x y a
 ·have e:m=1:=by simp[arity]at d;omega
  subst e;obtain⟨x,b,off,rfl,rfl⟩:=a.len1;exact ym 16 II kd g f st nm w b off c x a
 ·have e:m=3:=by simp[arity]at d;omega
  subst e;obtain⟨x,y,z,b,off,rfl,rfl⟩:=a.len3;exact JI kd g f st nm w b off c x y z a
 ·have e:m=2:=by simp[arity]at d;omega
  subst e;obtain⟨x,y,b,off,rfl,rfl⟩:=a.len2;exact ww 18 II kd g f st nm w b off c x y a
 ·have e:m=1:=by simp[arity]at d;omega
  subst e;obtain⟨x,b,off,rfl,rfl⟩:=a.len1;exact ym 19 II kd g f st nm w b off c x a
 ·have e:m=1:=by simp[arity]at d;omega
  subst e;obtain⟨x,b,off,rfl,rfl⟩:=a.len1;exact ym 20 II kd g f st nm w b off c x a
theorem pF {hs:List Int}{x:Node}{l:List Node}{d:Nat}(h:fZ hs (x::l)=0)(hd:hs.length=d):
  ∃(m r:Nat) (c:List Int),shaped x=true/\arity x.op x.arity=(m:Int)/\m<=8/\d=r+m/\c.length=r+1/\fZ c l=0:=by
 rw[fZ]at h
 split at h
 ·omega
 ·rename_i b;have e:shaped x=true:=by
   cases g:shaped x
   ·exact absurd (.inl g) b
   ·rfl
  have i:¬(hs.length:Int)<arity x.op x.arity:=λq=>b (.inr q);have j:=mU e;obtain⟨m,a⟩: ∃m:Nat,arity x.op x.arity=(m:Int):=⟨(arity x.op x.arity).toNat,Ho⟩
  split at h
  ·omega
  ·have f:oh x hs.length=d-m:=by rw[oh,a,hd,Int.toNat_natCast]
   refine⟨m,d-m,_,e,a,Ho,Ho,?_,h⟩;rw[List.length_append,List.length_take,f];simp;omega
theorem pE {hs:List Int}{d:Nat}(h:fZ hs []=0)(hd:hs.length=d):d=1:=by
 rw[fZ]at h
 split at h
 ·omega
 ·omega
theorem nC {es:List Node}(h:gY es=0):es.length<=256/\fZ [] es=0:=by
 rw[gY]at h
 split at h
 ·omega
 ·exact⟨Ho,h⟩
theorem jO {α:Type}[Flat α]{P:Program}(w:World){ab:Array Oper}{o:Oper}{a:Act}{K:Act->World->Prop}{Q:Exit->Act->World->Prop}{E:Prop}(L:o.guard=none)(s x:Operand)(t:TypeId)(O:o.op=.call {callee:=.builtin .append,args:= #[s,x],argTypes:= #[t,t]})(B:Nat)(e:TypeId)(i:TypeInfo)(z:Value)(bytes:Nat)(U:P.underlying t=some (.slice e))(hi:P.info? e=some i)(Z:i.zero=some z)(T:i.size=Rep.size α)(H:i.bytes=bytes)(aa:z.cells.size=Rep.size α)(G:bytes<=256)(A:Option Addr)(c k:Nat)(xs:List α)(R:Stk B w e A c xs)(M:k<=xs.length)(hs:a.eval s=.slice A k c)(y:α)(Y:Flat.ok y)(b:Nat)(X:a.eval x=.slice (some ⟨b,0,none⟩) 1 1)(I:FO w b y)(hm:k<=1048576)(p:B<=w.heap.size)(h: ∀A' c' w',Stk B w' e A' c' (xs.take k++[y])->Below B w w'->(∀g,g<w.heap.size->(Value.slice A k c).ownBlock≠some g->w'.heap[g]?=w.heap[g]?)->K (a.put o.dst (.slice A' (k+1) c')) w'):
  if Region.wanted o (yielded ab a.tmps)=true then Oper.wp P o a w K Q else E:=by
 have l:=R.take M;have f:(xs.take k).length=k:=by rw[List.length_take];omega
 have v:=l.blk;rw[f]at v;have S:Src w (Rep.size α) (some ⟨b,0,none⟩) 1 (Flat.cs y):=⟨by rw[Flat.cs_len];omega,λ_=>⟨b,0,rfl,λj u V=>by rw[Nat.zero_add];exact I j u V⟩⟩;refine iL (P:=P) w L s x t O B e i z (Rep.size α) bytes U hi Z T H aa Flat.pos (.slice A k c) k ((xs.take k).flatMap Flat.cs) hs (by have:=l.own;rw[f]at this;exact this)
  (some ⟨b,0,none⟩) 1 1 (Flat.cs y) X (by intro h;cases h) S (Flat.cs_one y) (by simp only[maxLen];omega) ?_ p ?_
 ·have:(k+1)*bytes<=1048577*256:=Nat.mul_le_mul Ho G;omega
 ·intro v' w1 m n h3;have hb:Below B w w1:=(Below.refl B w).grown n p (λg C=>(v g C).2);rcases m.2 with ⟨_,h5⟩|⟨g,cap,ac,W,C,r⟩
  ·omega
  ·subst W;refine h _ _ _ ⟨?_,?_⟩ hb (λF J N=>n.block F J (λe=>N e.symm))
   ·rw[List.length_append,f,List.flatMap_append];have D:[y].flatMap Flat.cs=Flat.cs y:=by simp
    rw[D];exact m
   ·intro q d;rcases List.mem_append.1 d with d|d
    ·exact l.ok q d
    ·simp at d;subst d;exact Y
end Go.Proofs.YthnelebakkggjaaGreatDoor
