/-
  zone.Validate and warehouseref4.Validate: both return zoneErr. bag.IsTable; warehouseref6.Validate, positive, IsTable.
-/
import Derived.Test.YthnelebakkggjaaGreatDoorGad
namespace Go.Proofs.YthnelebakkggjaaGreatDoor
set_option maxHeartbeats 2000000
set_option maxRecDepth 100000
open Go.RowKit
set_option linter.unusedSimpArgs false
set_option linter.unusedVariables false
theorem lW (m:Int)(w:World):Calls Tryz.prog 192 #[.int .i64 m] w λe w'=>e=.returned (.bool (pq m))/\w=w':=by
 go_enter Tryz.func192,Tryz.ntmps192;go_wp2;all_goals(go_ret;refine⟨eU ?_,rfl⟩;go_light;unfold pq;first|(simp_all;done)|(simp_all;omega))
theorem ma (m:Int)(w:World):Calls Tryz.prog 157 #[.int .i64 m] w λe w'=>e=.returned (.bool (pq m))/\w=w':=by
 go_enter Tryz.func157,Tryz.ntmps157;go_wp2;all_goals(go_ret;refine⟨eU ?_,rfl⟩;go_light;unfold pq;first|(simp_all;done)|(simp_all;omega))
theorem In.shift {w:World}{A:Option Addr}{n c k:Nat}{xs:List Shift}(h:In w A n c xs)(d:k<n): ∃b off x,A=some ⟨b,off,none⟩/\b<w.heap.size/\Hl (xs.drop k=x::xs.drop (k+1))/\
  w.cell? ⟨b,off+k*2,none⟩=some (.int .i64 x.at_)/\w.cell? ⟨b,off+k*2+1,none⟩=some (.int .i64 x.offset)/\jP x.at_/\jP x.offset:=by
 obtain⟨b,off,x,e,hb,g,i,⟨rfl,f⟩,a⟩:=h.get d;exact⟨b,off,x,e,hb,g,a 0 (by simp[Shift.cells]),a 1 (by simp[Shift.cells]),f⟩
theorem mP {l r:List Shift}{k:Nat}{x:Shift}(h:iZ l k x=0):gp l k (x::r)=gp l (k+1) r:=by simp[gp,h]
theorem jw {l r:List Shift}{k:Nat}{x:Shift}{e:Int}(h:iZ l k x=e)(a:e≠0):gp l k (x::r)=e:=by simp[gp,h,a]
theorem Ei (w:World)(A:Option Addr)(n c:Nat)(z:Zone)(h:In w A n c z.shifts)(J:jP z.offset):
  Calls Tryz.prog 165 #[.agg #[.string z.name,.int .i64 z.offset,.slice A n c]] w λe w'=>e=.returned (.int .i64 (fD z))/\Below w.heap.size w w':=by
 obtain⟨nm,d,xs⟩:=z;simp only at h J⊢;have R:=h.le;have t:=Hm h.len;by_cases r:64<n
 ·have a:Hl (2=fD ⟨nm,d,xs⟩):=Hm (by simp only[fD];rw[t.o,if_pos r]);go_enter Tryz.func165,Tryz.ntmps165;go_wp2;all_goals(go_ret;exact⟨eQ a.o,eB⟩)
 cases C:pq d
 ·have a:Hl (1=fD ⟨nm,d,xs⟩):=Hm (by simp only[fD];rw[t.o,if_neg r,if_pos C]);go_enter Tryz.func165,Tryz.ntmps165;go_wp2_with (go_at_call 192;refine(lW _ _).mono ?_;rintro e w' ⟨rfl,rfl⟩);all_goals(go_ret;exact⟨eQ a.o,eB⟩)
 have j:Hl (fD ⟨nm,d,xs⟩=gp xs 0 xs):=Hm (by simp only[fD];rw[t.o,if_neg r,if_neg (by simp[C])]);go_enter Tryz.func165,Tryz.ntmps165;go_wp2_with (go_at_call 192;refine(lW _ _).mono ?_;rintro e w' ⟨rfl,rfl⟩);go_loopw [16] (λi wr=> ∃k:Nat,k<=n/\i=.int .i64 k/\gp xs 0 xs=gp xs k (xs.drop k)/\Below (w.alloc (.cells #[.string nm,.int .i64 d,.slice A n c] 155)).heap.size (w.alloc (.cells #[.string nm,.int .i64 d,.slice A n c] 155)) wr) (λi _=>n-(intOf i).toNat)
 case atStart=>exact⟨0,Nat.zero_le _,rfl,rfl,IJ⟩
 case round=>
  obtain⟨k,U,rfl,E,l⟩:=hrel;have f:=Hm E;clear E;have hb:Below w.heap.size w wr:=eu eB l;have Q:wr.cell? ⟨w.heap.size,2,none⟩=some (.slice A n c):=eG l II (by simp[go_sem]);have V:w.heap.size<wr.heap.size:=by have:=l.size;simp at this;omega
  have F:=Hm l;clear l;by_cases I:k<n
  ·obtain⟨b,off,x,rfl,S,g,N,f1,v,B⟩:=(h.b hb).shift I;have O:=v;have P:=B;unfold jP at v B;by_cases c1:x.at_<1
   ·have a:Hl (1=fD ⟨nm,d,xs⟩):=Hm (by rw[j.o,f.o,g.o];exact(jw (by simp[iZ,c1]) Ho).symm);go_wp2_with (go_at_call 192;refine(lW _ _).mono ?_;rintro e w' ⟨rfl,rfl⟩);all_goals(try(exfalso;go_light;simp_all;done));all_goals(go_ret;exact⟨eQ a.o,eu hb eB⟩)
   by_cases c2:575999999<x.at_
   ·have a:Hl (1=fD ⟨nm,d,xs⟩):=Hm (by rw[j.o,f.o,g.o];exact(jw (by simp[iZ,c2]) Ho).symm);go_wp2_with (go_at_call 192;refine(lW _ _).mono ?_;rintro e w' ⟨rfl,rfl⟩);all_goals(try(exfalso;go_light;simp_all;done));all_goals(go_ret;exact⟨eQ a.o,eu hb eB⟩)
   cases c3:pq x.offset
   ·have a:Hl (1=fD ⟨nm,d,xs⟩):=Hm (by rw[j.o,f.o,g.o];exact(jw (by simp[iZ,c3]) Ho).symm);go_wp2_with (go_at_call 192;refine(lW _ _).mono ?_;rintro e w' ⟨rfl,rfl⟩);all_goals(try(exfalso;go_light;simp_all;done));all_goals(go_ret;exact⟨eQ a.o,eu hb eB⟩)
   have k0:(0:Int)<=(k:Int):=by omega
   have k1:(k:Int)<(n:Int):=by omega
   have D:=eu F.o (eB (o:=.cells #[.int .i64 x.at_,.int .i64 x.offset] 184));have m:=Hm D;have s:=eu hb (eB (o:=.cells #[.int .i64 x.at_,.int .i64 x.offset] 184));clear D;by_cases p:k=0
   ·have q:Hl (gp xs 0 xs=gp xs (k+1) (xs.drop (k+1))):=Hm (by rw[f.o,g.o];exact mP (by simp[iZ,c1,c2,c3,p]));have K:decide (0<k)=false:=by simp;omega
    have L:=Hm p;clear p;go_wp2_with (go_at_call 192;refine(lW _ _).mono ?_;rintro e w' ⟨rfl,rfl⟩);all_goals(try(exfalso;go_light;simp_all;done));go_quiet (fail);go_wp2;go_roundw
    case rel=>exact⟨k+1,Ho,by go_num,q.o,by first|exact m.o|exact below_drewN m.o _⟩
    case measure=>simp[intOf];omega
   ·obtain⟨M,aa,y,e,T,G,y0,y1,y2,y3⟩:=(h.b s).shift (show k-1<n by omega);injection e with e;injection e with e_1 e_2;subst e_1 e_2;have u:=Hm (iI G.o).1;have K:decide (0<k)=true:=by simp;omega
    have W:(0:Int)<=(k:Int)-1:=by omega
    have X:(k:Int)-1<(n:Int):=by omega
    have Y:((k:Int)-1).toNat=k-1:=by omega
    have i5:(1:Int)<=(k:Int):=by omega
    have i6:(k:Int)<=(n:Int):=by omega
    have Z:IntKind.i64.wrap ((k:Int)-1)=(k:Int)-1:=IntWalk.i64_in _ Ho;have H:Hl (0<k):=Hm Ho;clear p;by_cases c4:x.at_<=y.at_
    ·have a:Hl (14=fD ⟨nm,d,xs⟩):=Hm (by rw[j.o,f.o,g.o];exact(jw (by simp[iZ,c1,c2,c3,H.o,u.o,c4]) Ho).symm);go_wp2_with (go_at_call 192;refine(lW _ _).mono ?_;rintro e w' ⟨rfl,rfl⟩);all_goals(try(exfalso;go_light;simp_all;done));go_quiet (fail);go_wp2;go_ret;exact⟨eQ a.o,by first|exact s|exact below_drewN s _⟩
    ·have q:Hl (gp xs 0 xs=gp xs (k+1) (xs.drop (k+1))):=Hm (by rw[f.o,g.o];exact mP (by simp[iZ,c1,c2,c3,u.o,c4]));go_wp2_with (go_at_call 192;refine(lW _ _).mono ?_;rintro e w' ⟨rfl,rfl⟩);all_goals(try(exfalso;go_light;simp_all;done));go_quiet (fail);go_wp2;go_roundw
     case rel=>exact⟨k+1,Ho,by go_num,q.o,by first|exact m.o|exact below_drewN m.o _⟩
     case measure=>simp[intOf];omega
  ·go_wp2;go_ret;exact⟨eQ (by rw[j.o,f.o,fG h.len Ho,gp]),hb⟩
theorem Ej (w:World)(A:Option Addr)(n c:Nat)(z:Zone)(h:In w A n c z.shifts)(J:jP z.offset):
  Calls Tryz.prog 135 #[.agg #[.string z.name,.int .i64 z.offset,.slice A n c]] w λe w'=>e=.returned (.int .i64 (fD z))/\Below w.heap.size w w':=by
 obtain⟨nm,d,xs⟩:=z;simp only at h J⊢;have R:=h.le;have t:=Hm h.len;by_cases r:64<n
 ·have a:Hl (2=fD ⟨nm,d,xs⟩):=Hm (by simp only[fD];rw[t.o,if_pos r]);go_enter Tryz.func135,Tryz.ntmps135;go_wp2;all_goals(go_ret;exact⟨eQ a.o,eB⟩)
 cases C:pq d
 ·have a:Hl (1=fD ⟨nm,d,xs⟩):=Hm (by simp only[fD];rw[t.o,if_neg r,if_pos C]);go_enter Tryz.func135,Tryz.ntmps135;go_wp2_with (go_at_call 157;refine(ma _ _).mono ?_;rintro e w' ⟨rfl,rfl⟩);all_goals(go_ret;exact⟨eQ a.o,eB⟩)
 have j:Hl (fD ⟨nm,d,xs⟩=gp xs 0 xs):=Hm (by simp only[fD];rw[t.o,if_neg r,if_neg (by simp[C])]);go_enter Tryz.func135,Tryz.ntmps135;go_wp2_with (go_at_call 157;refine(ma _ _).mono ?_;rintro e w' ⟨rfl,rfl⟩);go_loopw [3] (λi wr=> ∃k:Nat,k<=n/\i=.int .i64 k/\gp xs 0 xs=gp xs k (xs.drop k)/\Below (w.alloc (.cells #[.string nm,.int .i64 d,.slice A n c] 155)).heap.size (w.alloc (.cells #[.string nm,.int .i64 d,.slice A n c] 155)) wr) (λi _=>n-(intOf i).toNat)
 case atStart=>exact⟨0,Nat.zero_le _,rfl,rfl,IJ⟩
 case round=>
  obtain⟨k,U,rfl,E,l⟩:=hrel;have f:=Hm E;clear E;have hb:Below w.heap.size w wr:=eu eB l;have Q:wr.cell? ⟨w.heap.size,2,none⟩=some (.slice A n c):=eG l II (by simp[go_sem]);have V:w.heap.size<wr.heap.size:=by have:=l.size;simp at this;omega
  have F:=Hm l;clear l;by_cases I:k<n
  ·obtain⟨b,off,x,rfl,S,g,N,f1,v,B⟩:=(h.b hb).shift I;have O:=v;have P:=B;unfold jP at v B;by_cases c1:x.at_<1
   ·have a:Hl (1=fD ⟨nm,d,xs⟩):=Hm (by rw[j.o,f.o,g.o];exact(jw (by simp[iZ,c1]) Ho).symm);go_wp2_with (go_at_call 157;refine(ma _ _).mono ?_;rintro e w' ⟨rfl,rfl⟩);all_goals(try(exfalso;go_light;simp_all;done));all_goals(go_ret;exact⟨eQ a.o,eu hb eB⟩)
   by_cases c2:575999999<x.at_
   ·have a:Hl (1=fD ⟨nm,d,xs⟩):=Hm (by rw[j.o,f.o,g.o];exact(jw (by simp[iZ,c2]) Ho).symm);go_wp2_with (go_at_call 157;refine(ma _ _).mono ?_;rintro e w' ⟨rfl,rfl⟩);all_goals(try(exfalso;go_light;simp_all;done));all_goals(go_ret;exact⟨eQ a.o,eu hb eB⟩)
   cases c3:pq x.offset
   ·have a:Hl (1=fD ⟨nm,d,xs⟩):=Hm (by rw[j.o,f.o,g.o];exact(jw (by simp[iZ,c3]) Ho).symm);go_wp2_with (go_at_call 157;refine(ma _ _).mono ?_;rintro e w' ⟨rfl,rfl⟩);all_goals(try(exfalso;go_light;simp_all;done));all_goals(go_ret;exact⟨eQ a.o,eu hb eB⟩)
   have k0:(0:Int)<=(k:Int):=by omega
   have k1:(k:Int)<(n:Int):=by omega
   have D:=eu F.o (eB (o:=.cells #[.int .i64 x.at_,.int .i64 x.offset] 184));have m:=Hm D;have s:=eu hb (eB (o:=.cells #[.int .i64 x.at_,.int .i64 x.offset] 184));clear D;by_cases p:k=0
   ·have q:Hl (gp xs 0 xs=gp xs (k+1) (xs.drop (k+1))):=Hm (by rw[f.o,g.o];exact mP (by simp[iZ,c1,c2,c3,p]));have K:decide (0<k)=false:=by simp;omega
    have L:=Hm p;clear p;go_wp2_with (go_at_call 157;refine(ma _ _).mono ?_;rintro e w' ⟨rfl,rfl⟩);all_goals(try(exfalso;go_light;simp_all;done));go_quiet (fail);go_wp2;go_roundw
    case rel=>exact⟨k+1,Ho,by go_num,q.o,by first|exact m.o|exact below_drewN m.o _⟩
    case measure=>simp[intOf];omega
   ·obtain⟨M,aa,y,e,T,G,y0,y1,y2,y3⟩:=(h.b s).shift (show k-1<n by omega);injection e with e;injection e with e_1 e_2;subst e_1 e_2;have u:=Hm (iI G.o).1;have K:decide (0<k)=true:=by simp;omega
    have W:(0:Int)<=(k:Int)-1:=by omega
    have X:(k:Int)-1<(n:Int):=by omega
    have Y:((k:Int)-1).toNat=k-1:=by omega
    have i5:(1:Int)<=(k:Int):=by omega
    have i6:(k:Int)<=(n:Int):=by omega
    have Z:IntKind.i64.wrap ((k:Int)-1)=(k:Int)-1:=IntWalk.i64_in _ Ho;have H:Hl (0<k):=Hm Ho;clear p;by_cases c4:x.at_<=y.at_
    ·have a:Hl (14=fD ⟨nm,d,xs⟩):=Hm (by rw[j.o,f.o,g.o];exact(jw (by simp[iZ,c1,c2,c3,H.o,u.o,c4]) Ho).symm);go_wp2_with (go_at_call 157;refine(ma _ _).mono ?_;rintro e w' ⟨rfl,rfl⟩);all_goals(try(exfalso;go_light;simp_all;done));go_quiet (fail);go_wp2;go_ret;exact⟨eQ a.o,by first|exact s|exact below_drewN s _⟩
    ·have q:Hl (gp xs 0 xs=gp xs (k+1) (xs.drop (k+1))):=Hm (by rw[f.o,g.o];exact mP (by simp[iZ,c1,c2,c3,u.o,c4]));go_wp2_with (go_at_call 157;refine(ma _ _).mono ?_;rintro e w' ⟨rfl,rfl⟩);all_goals(try(exfalso;go_light;simp_all;done));go_quiet (fail);go_wp2;go_roundw
     case rel=>exact⟨k+1,Ho,by go_num,q.o,by first|exact m.o|exact below_drewN m.o _⟩
     case measure=>simp[intOf];omega
  ·go_wp2;go_ret;exact⟨eQ (by rw[j.o,f.o,fG h.len Ho,gp]),hb⟩
def oF:Nat->List Ent->Int
 | _,[]=> -1
 |k,x::l=>if x.count<0 then k else oF (k+1) l
theorem Dv (l:List Ent): ∀k,(decide (0<=oF k l))=!(l.all λx=>decide (0<=x.count)):=by
 induction l with
 |nil=>intro k;rfl
 |cons x l a=>
  intro k;rw[oF];by_cases h:x.count<0
  ·rw[if_pos h];have:¬0<=x.count:=by omega
   simp[this]
  ·rw[if_neg h,a (k+1)];have:0<=x.count:=by omega
   simp[this]
theorem Lc (A:Option Addr)(n c:Nat)(m:Int)(w:World):
  Calls Tryz.prog 126 #[.agg #[.slice A n c,.int .i64 m]] w λe w'=>e=.returned (.bool (decide (m<0)))/\Below w.heap.size w w':=by
 go_enter Tryz.func126,Tryz.ntmps126;go_wp2;go_ret;exact⟨rfl,eB⟩
theorem zW (w:World)(A:Option Addr)(n c:Nat)(xs:List Ent)(d:In w A n c xs):
  Calls Tryz.prog 147 #[.slice A n c,.func (.func 126) #[] #[]] w
   λe w'=>e=.returned (.int .i64 (oF 0 xs))/\Below w.heap.size w w':=by
 have t:=d.le;go_enter Tryz.func147,Tryz.ntmps147;go_wp2;go_loopw [8] (λi wr=> ∃k:Nat,k<=n/\i=.int .i64 k/\oF 0 xs=oF k (xs.drop k)/\Below w.heap.size w wr) (λi _=>n-(intOf i).toNat)
 case atStart=>exact⟨0,Nat.zero_le _,rfl,rfl,IJ⟩
 case round=>
  obtain⟨k,v,rfl,j,hb⟩:=hrel;have a:=Hm j;clear j;by_cases r:k<n
  ·obtain⟨b,off,x,rfl,u,f,A',n',c',m,p,q,s⟩:=(d.b hb).ent r;go_wp2_with fail;refine(Lc _ _ _ _ _).mono ?_;rintro e y ⟨rfl,g⟩;have h:=eu hb g;clear g m p q;by_cases l:x.count<0
   ·have hd:decide (x.count<0)=true:=by simp[l]
    go_wp2;all_goals(try(exfalso;go_light;simp_all;done));go_ret;exact⟨eQ (by rw[a.o,f.o,oF,if_pos l]),h⟩
   ·have hd:decide (x.count<0)=false:=by simp;omega
    go_wp2;all_goals(try(exfalso;go_light;simp_all;done));go_roundw
    case rel=>exact⟨k+1,Ho,by go_num,by rw[a.o,f.o,oF,if_neg Ho],h⟩
    case measure=>simp[intOf];omega
  ·go_wp2;go_ret;exact⟨eQ (by rw[a.o,fG d.len Ho,oF]),hb⟩
theorem wM (w:World)(A:Option Addr)(n c:Nat)(xs:List Ent)(b:In w A n c xs):
  Calls Tryz.prog 125 #[.slice A n c,.func (.func 126) #[] #[]] w
   λe w'=>e=.returned (.bool (decide (0<=oF 0 xs)))/\Below w.heap.size w w':=by
 go_enter Tryz.func125,Tryz.ntmps125;go_wp2_with fail;refine(zW _ _ _ _ xs b).mono ?_;rintro e d ⟨rfl,a⟩;go_wp2;go_ret;exact⟨rfl,a⟩
theorem Dc (w:World)(A:Option Addr)(n c:Nat)(xs:List Ent)(f:In w A n c xs):
  Calls Tryz.prog 96 #[.slice A n c] w λe w'=>e=.returned (.bool (jE xs))/\Below w.heap.size w w':=by
 go_enter Tryz.func96,Tryz.ntmps96;go_wp2_with fail;refine(xW _ _ _ _ xs f).mono ?_;rintro e k ⟨rfl,a⟩;cases g:(fA xs==0)
 ·go_wp2;all_goals(try(exfalso;go_light;simp_all;done));go_ret;exact⟨eU (by rw[jE,g];rfl),a⟩
 ·go_wp2_with fail;all_goals(try(exfalso;go_light;simp_all;done));refine(wM _ _ _ _ xs (f.b a)).mono ?_;rintro e l ⟨rfl,d⟩;have j:=eu a d;have i:=Hm (Dv xs 0);clear d;go_wp2;all_goals(try(exfalso;go_light;simp_all;done));go_ret;refine⟨eU ?_,j⟩;go_light;rw[jE,g];have:=i.o;cases h:(xs.all λx=>decide (0<=x.count))<;>rw[h]at this<;>simp_all
theorem FT (w:World)(A:Option Addr)(n c:Nat)(a:List Ent)(p:In w A n c a):
  Calls Tryz.prog 81 #[.slice A n c] w λe w'=>e=.returned (.int .i64 (fA a))/\Below w.heap.size w w':=by
 have Z:=p.le;have O:=Hm p.len;go_enter Tryz.func81,Tryz.ntmps81;by_cases hs:4096<n
 ·have d:Hl (2=fA a):=Hm (by rw[fA,O.o,if_pos hs]);go_wp2;go_ret;exact⟨eQ d.o,IJ⟩
 have r:Hl (fA a=eH (iT a) 0 a):=Hm (by rw[fA,O.o,if_neg hs]);have ad:n<=4096:=by omega
 clear hs;go_wp2;go_loopw [3] (λi wr=> ∃k:Nat,k<=n/\i=.int .i64 k/\eH (iT a) 0 a=eH (iT a) k (a.drop k)/\Below w.heap.size w wr) (λi _=>n-(intOf i).toNat)
 case atStart=>exact⟨0,Nat.zero_le _,rfl,rfl,IJ⟩
 case round=>
  obtain⟨k,hk,rfl,N,hb⟩:=hrel;have v:=Hm N;clear N;by_cases P:k<n
  ·obtain⟨b,off,x,rfl,B,G,A',n',c',s,H,y,I⟩:=(p.b hb).ent P;go_wp2_with fail;refine(AQ _ A' n' c' x y I).mono ?_;rintro e X ⟨rfl,g⟩;have l:=eu hb g;replace s:=eG g B s;replace H:=eG g B H;have S:=y.b g;have aa:b<X.heap.size:=Nat.lt_of_lt_of_le B g.size;obtain⟨ab,ac⟩:=I;clear g y;by_cases f:gy x=0
   ·rw[f];have q:Hl (eH (iT a) 0 a=if x.count=0 then 8 else if 0<k/\0<=eZ (a.getD (k-1) default).row x.row then 14 else eH (iT a) (k+1) (a.drop (k+1))):=Hm (by
     rw[v.o,G.o];by_cases j:x.count=0
     ·rw[if_pos j];exact fI (by rw[kg,if_neg (by simp[f]),if_pos j]) Ho
     ·by_cases u:0<k/\0<=eZ (a.getD (k-1) default).row x.row
      ·rw[if_neg j,if_pos u];exact fI (by rw[kg,if_neg (by simp[f]),if_neg j,if_pos u]) Ho
      ·rw[if_neg j,if_neg u];exact gG (by rw[kg,if_neg (by simp[f]),if_neg j,if_neg u]))
    clear f;cases m:(x.count==0)
    ·have D:¬x.count=0:=by simpa using m
     by_cases z:0<k
     ·obtain⟨Y,af,E,Q,c0,t,e,L,J,f1,F⟩:=In.prev (p.b l) P z;injection e with e;injection e with e_1 e_2;subst e_1 e_2;have i0:(0:Int)<(k:Int):=by omega
      have T:(0:Int)<=(k:Int)-1:=by omega
      have U:(k:Int)-1<(n:Int):=by omega
      have V:((k:Int)-1).toNat=k-1:=by omega
      have i5:(1:Int)<=(k:Int):=by omega
      have i6:(k:Int)<=(n:Int):=by omega
      have i7:(k:Int)<(n:Int):=by omega
      have i8:(0:Int)<=(k:Int):=by omega
      have W:IntKind.i64.wrap ((k:Int)-1)=(k:Int)-1:=IntWalk.i64_in _ Ho;go_wp2_with fail;go_region_held3 (λw'=>w'.cell? ⟨b,off+(k-1)*2,none⟩=some (.slice E Q c0)/\w'.cell? ⟨b,off+k*2,none⟩=some (.slice A' n' c')) (first|exact⟨J,s⟩|(have m:=eF C;exact⟨eG m L J,eG m L s⟩)) (first|(go_at_call 83;refine(sI _ E A' Q n' c0 c' t x.row (by exact f1) (by exact S)).mono ?_;rintro e w2 ⟨rfl,C⟩));have K:=eu l (eF C);clear C W V U T;by_cases M:0<=eZ t x.row
      ·have d:Hl (14=fA a):=Hm (by rw[r.o,q.o,F.o,if_neg D,if_pos ⟨z,M⟩]);have hd:decide (0<=eZ t x.row)=true:=by simp;omega
       go_wp2;all_goals(try(exfalso;go_light;simp_all;done));go_ret;exact⟨eQ d.o,K⟩
      ·have d:Hl (eH (iT a) 0 a=eH (iT a) (k+1) (a.drop (k+1))):=Hm (by rw[q.o,F.o,if_neg D,if_neg (λh=>M h.2)]);have hd:decide (0<=eZ t x.row)=false:=by simp;omega
       go_wp2;all_goals(try(exfalso;go_light;simp_all;done));go_roundw
       case rel=>exact⟨k+1,Ho,by go_num,d.o,K⟩
       case measure=>simp[intOf];omega
     ·have R:k=0:=by omega
      have d:Hl (eH (iT a) 0 a=eH (iT a) (k+1) (a.drop (k+1))):=Hm (by rw[q.o,if_neg D,if_neg (λh=>z h.1)]);subst R;go_wp2;go_quiet (fail);go_wp2;go_roundw
      case rel=>exact⟨0+1,Ho,by go_num,d.o,ib l⟩
      case measure=>simp[intOf];omega
    ·have d:Hl (8=fA a):=Hm (by rw[r.o,q.o,if_pos (by simpa using m)]);go_wp2;go_ret;exact⟨eQ d.o,l⟩
   ·have ae:(gy x==0)=false:=by simp[f]
    have d:Hl (gy x=fA a):=Hm (by rw[r.o,v.o,G.o];exact(fI (by rw[kg,if_pos f]) f).symm);go_wp2;all_goals(try(exfalso;go_light;simp_all;done));go_ret;exact⟨eQ d.o,l⟩
  ·go_wp2;go_ret;exact⟨eQ (by rw[r.o,v.o,fG p.len Ho,eH]),hb⟩
def pos (b:List Ent):Bool:=b.all λx=>decide (0<x.count)
theorem DK (x:Ent)(l:List Ent):pos (x::l)=(decide (0<x.count)&&pos l):=rfl
theorem Cc (w:World)(A:Option Addr)(n c:Nat)(xs:List Ent)(d:In w A n c xs):
  Calls Tryz.prog 139 #[.slice A n c] w λe w'=>e=.returned (.bool (pos xs))/\w=w':=by
 have q:=d.le;go_enter Tryz.func139,Tryz.ntmps139;go_wp2
 go_loop [3] (λi=> ∃k:Nat,k<=n/\i=.int .i64 k/\pos xs=pos (xs.drop k)) (λi=>n-(intOf i).toNat)
 case atStart=>exact⟨0,Nat.zero_le _,rfl,rfl⟩
 case round=>
  obtain⟨k,s,rfl,g⟩:=hrel;have a:=Hm g;clear g;by_cases h:k<n
  ·obtain⟨b,off,x,rfl,r,f,A',n',c',j,l,m,p⟩:=d.ent h;by_cases t:x.count<=0
   ·go_wp2;all_goals(try(exfalso;go_light;simp_all;done));go_ret;exact⟨eU (by rw[a.o,f.o,DK];simp;omega),rfl⟩
   ·go_wp2;all_goals(try(exfalso;go_light;simp_all;done))
    go_round
    case rel=>exact⟨k+1,Ho,by go_num,by rw[a.o,f.o,DK];simp;omega⟩
    case measure=>simp[intOf];omega
  ·go_wp2;go_ret;exact⟨eU (by rw[a.o,fG d.len Ho];rfl),rfl⟩
theorem MF (b:List Ent)(l:List Ent): ∀k,eH (iT b) k l=0-> ∀x∈l,x.count≠0:=by
 induction l with
 |nil=>intro k _ x c;cases c
 |cons y l f=>
  intro k h x c;by_cases a:iT b k y=0
  ·rw[gG a]at h;cases c with
   |head=>
    intro e;rw[kg]at a;by_cases d:gy y=0
    ·rw[if_neg (by simp[d]),if_pos e]at a;omega
    ·rw[if_pos d]at a;exact d a
   |tail _ c=>exact f _ h x c
  ·rw[fI rfl a]at h;exact absurd h a
theorem De {b:List Ent}(h:fA b=0):jE b=pos b:=by
 have d: ∀x∈b,x.count≠0:=by
  rw[fA]at h;by_cases c:4096<b.length
  ·rw[if_pos c]at h;omega
  ·rw[if_neg c]at h;exact MF b b 0 h
 rw[jE,h,pos];simp only[beq_self_eq_true,Bool.true_and];rw[Bool.eq_iff_iff,List.all_eq_true,List.all_eq_true];constructor
 ·intro h x a;have:=h x a;have:=d x a;simp only[decide_eq_true_eq]at*;omega
 ·intro h x a;have:=h x a;simp only[decide_eq_true_eq]at*;omega
theorem Df (w:World)(A:Option Addr)(n c:Nat)(xs:List Ent)(d:In w A n c xs):
  Calls Tryz.prog 105 #[.slice A n c] w λe w'=>e=.returned (.bool (jE xs))/\Below w.heap.size w w':=by
 go_enter Tryz.func105,Tryz.ntmps105;go_wp2_with fail;refine(FT _ _ _ _ xs d).mono ?_;rintro e h ⟨rfl,a⟩;cases f:(fA xs==0)
 ·go_wp2;all_goals(try(exfalso;go_light;simp_all;done));go_ret;exact⟨eU (by rw[jE,f];rfl),a⟩
 ·have g:=Hm (De (b:=xs) (by simpa using f));go_wp2_with fail;all_goals(try(exfalso;go_light;simp_all;done));refine(Cc _ _ _ _ xs (d.b a)).mono ?_;rintro e i ⟨rfl,rfl⟩;go_wp2;all_goals(try(exfalso;go_light;simp_all;done));go_ret;exact⟨eU g.o.symm,a⟩
end Go.Proofs.YthnelebakkggjaaGreatDoor
