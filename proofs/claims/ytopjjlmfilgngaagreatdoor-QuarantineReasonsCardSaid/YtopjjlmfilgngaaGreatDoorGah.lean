/-
  zone.Validate and warehouseref4.Validate: both return zoneErr. bag.IsTable; warehouseref6.Validate, positive, IsTable.
-/
import Derived.Test.YtopjjlmfilgngaaGreatDoorGad
namespace Go.Proofs.YtopjjlmfilgngaaGreatDoor
set_option maxHeartbeats 2000000
set_option maxRecDepth 100000
open Go.RowKit
set_option linter.unusedSimpArgs false
set_option linter.unusedVariables false
theorem l8 (m:Int)(w:World):Calls Tryz.prog 254 #[.int .i64 m] w λe w'=>e=.returned (.bool (pu m))/\w=w':=by
 go_enter Tryz.func254,Tryz.ntmps254;go_wp2;all_goals(go_ret;refine⟨gp ?_,rfl⟩;go_light;unfold pu;first|(simp_all;done)|(simp_all;omega))
theorem mi (m:Int)(w:World):Calls Tryz.prog 155 #[.int .i64 m] w λe w'=>e=.returned (.bool (pu m))/\w=w':=by
 go_enter Tryz.func155,Tryz.ntmps155;go_wp2;all_goals(go_ret;refine⟨gp ?_,rfl⟩;go_light;unfold pu;first|(simp_all;done)|(simp_all;omega))
theorem In.shift {w:World}{A:Option Addr}{n c k:Nat}{xs:List Shift}(h:In w A n c xs)(d:k<n): ∃b off x,A=some ⟨b,off,none⟩/\b<w.heap.size/\Hl (xs.drop k=x::xs.drop (k+1))/\
  w.cell? ⟨b,off+k*2,none⟩=some (.int .i64 x.at_)/\w.cell? ⟨b,off+k*2+1,none⟩=some (.int .i64 x.offset)/\jU x.at_/\jU x.offset:=by
 obtain⟨b,off,x,e,hb,g,i,⟨rfl,f⟩,a⟩:=h.get d;exact⟨b,off,x,e,hb,g,a 0 (by simp[Shift.cells]),a 1 (by simp[Shift.cells]),f⟩
theorem mV {l r:List Shift}{k:Nat}{x:Shift}(h:jL l k x=0):ik l k (x::r)=ik l (k+1) r:=by simp[ik,h]
theorem jO {l r:List Shift}{k:Nat}{x:Shift}{e:Int}(h:jL l k x=e)(a:e≠0):ik l k (x::r)=e:=by simp[ik,h,a]
theorem Mm (w:World)(A:Option Addr)(n c:Nat)(z:Zone)(h:In w A n c z.shifts)(J:jU z.offset):
  Calls Tryz.prog 234 #[.agg #[.string z.name,.int .i64 z.offset,.slice A n c]] w λe w'=>e=.returned (.int .i64 (gT z))/\Below w.heap.size w w':=by
 obtain⟨nm,d,xs⟩:=z;simp only at h J⊢;have R:=h.le;have t:=Hm h.len;by_cases r:64<n
 ·have a:Hl (2=gT ⟨nm,d,xs⟩):=Hm (by simp only[gT];rw[t.o,if_pos r]);go_enter Tryz.func234,Tryz.ntmps234;go_wp2;all_goals(go_ret;exact⟨fV a.o,fI⟩)
 cases C:pu d
 ·have a:Hl (1=gT ⟨nm,d,xs⟩):=Hm (by simp only[gT];rw[t.o,if_neg r,if_pos C]);go_enter Tryz.func234,Tryz.ntmps234;go_wp2_with (go_at_call 254;refine(l8 _ _).mono ?_;rintro e w' ⟨rfl,rfl⟩);all_goals(go_ret;exact⟨fV a.o,fI⟩)
 have j:Hl (gT ⟨nm,d,xs⟩=ik xs 0 xs):=Hm (by simp only[gT];rw[t.o,if_neg r,if_neg (by simp[C])]);go_enter Tryz.func234,Tryz.ntmps234;go_wp2_with (go_at_call 254;refine(l8 _ _).mono ?_;rintro e w' ⟨rfl,rfl⟩);go_loopw [16] (λi wr=> ∃k:Nat,k<=n/\i=.int .i64 k/\ik xs 0 xs=ik xs k (xs.drop k)/\Below (w.alloc (.cells #[.string nm,.int .i64 d,.slice A n c] 166)).heap.size (w.alloc (.cells #[.string nm,.int .i64 d,.slice A n c] 166)) wr) (λi _=>n-(intOf i).toNat)
 case atStart=>exact⟨0,Nat.zero_le _,rfl,rfl,Below.refl _ _⟩
 case round=>
  obtain⟨k,U,rfl,E,l⟩:=hrel;have f:=Hm E;clear E;have hb:Below w.heap.size w wr:=fH fI l;have Q:wr.cell? ⟨w.heap.size,2,none⟩=some (.slice A n c):=fO l (by simp) (by simp[go_sem]);have V:w.heap.size<wr.heap.size:=by have:=l.size;simp at this;omega
  have F:=Hm l;clear l;by_cases I:k<n
  ·obtain⟨b,off,x,rfl,S,g,N,f1,v,B⟩:=(h.below hb).shift I;have O:=v;have P:=B;unfold jU at v B;by_cases c1:x.at_<1
   ·have a:Hl (1=gT ⟨nm,d,xs⟩):=Hm (by rw[j.o,f.o,g.o];exact(jO (by simp[jL,c1]) (by omega)).symm);go_wp2_with (go_at_call 254;refine(l8 _ _).mono ?_;rintro e w' ⟨rfl,rfl⟩);all_goals(try(exfalso;go_light;simp_all;done));all_goals(go_ret;exact⟨fV a.o,fH hb fI⟩)
   by_cases c2:575999999<x.at_
   ·have a:Hl (1=gT ⟨nm,d,xs⟩):=Hm (by rw[j.o,f.o,g.o];exact(jO (by simp[jL,c2]) (by omega)).symm);go_wp2_with (go_at_call 254;refine(l8 _ _).mono ?_;rintro e w' ⟨rfl,rfl⟩);all_goals(try(exfalso;go_light;simp_all;done));all_goals(go_ret;exact⟨fV a.o,fH hb fI⟩)
   cases c3:pu x.offset
   ·have a:Hl (1=gT ⟨nm,d,xs⟩):=Hm (by rw[j.o,f.o,g.o];exact(jO (by simp[jL,c3]) (by omega)).symm);go_wp2_with (go_at_call 254;refine(l8 _ _).mono ?_;rintro e w' ⟨rfl,rfl⟩);all_goals(try(exfalso;go_light;simp_all;done));all_goals(go_ret;exact⟨fV a.o,fH hb fI⟩)
   have k0:(0:Int)<=(k:Int):=by omega
   have k1:(k:Int)<(n:Int):=by omega
   have D:=fH F.o (fI (o:=.cells #[.int .i64 x.at_,.int .i64 x.offset] 187));have m:=Hm D;have s:=fH hb (fI (o:=.cells #[.int .i64 x.at_,.int .i64 x.offset] 187));clear D;by_cases p:k=0
   ·have q:Hl (ik xs 0 xs=ik xs (k+1) (xs.drop (k+1))):=Hm (by rw[f.o,g.o];exact mV (by simp[jL,c1,c2,c3,p]));have K:decide (0<k)=false:=by simp;omega
    have L:=Hm p;clear p;go_wp2_with (go_at_call 254;refine(l8 _ _).mono ?_;rintro e w' ⟨rfl,rfl⟩);all_goals(try(exfalso;go_light;simp_all;done));go_quiet (fail);go_wp2;go_roundw
    case rel=>exact⟨k+1,by omega,by go_num,q.o,by first|exact m.o|exact below_drewN m.o _⟩
    case measure=>simp[intOf];omega
   ·obtain⟨M,aa,y,e,T,G,y0,y1,y2,y3⟩:=(h.below s).shift (show k-1<n by omega);injection e with e;injection e with e_1 e_2;subst e_1 e_2;have u:=Hm (iR G.o).1;have K:decide (0<k)=true:=by simp;omega
    have W:(0:Int)<=(k:Int)-1:=by omega
    have X:(k:Int)-1<(n:Int):=by omega
    have Y:((k:Int)-1).toNat=k-1:=by omega
    have i5:(1:Int)<=(k:Int):=by omega
    have i6:(k:Int)<=(n:Int):=by omega
    have Z:IntKind.i64.wrap ((k:Int)-1)=(k:Int)-1:=IntWalk.i64_in _ (by omega);have H:Hl (0<k):=Hm (by omega);clear p;by_cases c4:x.at_<=y.at_
    ·have a:Hl (14=gT ⟨nm,d,xs⟩):=Hm (by rw[j.o,f.o,g.o];exact(jO (by simp[jL,c1,c2,c3,H.o,u.o,c4]) (by omega)).symm);go_wp2_with (go_at_call 254;refine(l8 _ _).mono ?_;rintro e w' ⟨rfl,rfl⟩);all_goals(try(exfalso;go_light;simp_all;done));go_quiet (fail);go_wp2;go_ret;exact⟨fV a.o,by first|exact s|exact below_drewN s _⟩
    ·have q:Hl (ik xs 0 xs=ik xs (k+1) (xs.drop (k+1))):=Hm (by rw[f.o,g.o];exact mV (by simp[jL,c1,c2,c3,u.o,c4]));go_wp2_with (go_at_call 254;refine(l8 _ _).mono ?_;rintro e w' ⟨rfl,rfl⟩);all_goals(try(exfalso;go_light;simp_all;done));go_quiet (fail);go_wp2;go_roundw
     case rel=>exact⟨k+1,by omega,by go_num,q.o,by first|exact m.o|exact below_drewN m.o _⟩
     case measure=>simp[intOf];omega
  ·go_wp2;go_ret;exact⟨fV (by rw[j.o,f.o,gG h.len (by omega),ik]),hb⟩
theorem Mq (w:World)(A:Option Addr)(n c:Nat)(z:Zone)(h:In w A n c z.shifts)(J:jU z.offset):
  Calls Tryz.prog 130 #[.agg #[.string z.name,.int .i64 z.offset,.slice A n c]] w λe w'=>e=.returned (.int .i64 (gT z))/\Below w.heap.size w w':=by
 obtain⟨nm,d,xs⟩:=z;simp only at h J⊢;have R:=h.le;have t:=Hm h.len;by_cases r:64<n
 ·have a:Hl (2=gT ⟨nm,d,xs⟩):=Hm (by simp only[gT];rw[t.o,if_pos r]);go_enter Tryz.func130,Tryz.ntmps130;go_wp2;all_goals(go_ret;exact⟨fV a.o,fI⟩)
 cases C:pu d
 ·have a:Hl (1=gT ⟨nm,d,xs⟩):=Hm (by simp only[gT];rw[t.o,if_neg r,if_pos C]);go_enter Tryz.func130,Tryz.ntmps130;go_wp2_with (go_at_call 155;refine(mi _ _).mono ?_;rintro e w' ⟨rfl,rfl⟩);all_goals(go_ret;exact⟨fV a.o,fI⟩)
 have j:Hl (gT ⟨nm,d,xs⟩=ik xs 0 xs):=Hm (by simp only[gT];rw[t.o,if_neg r,if_neg (by simp[C])]);go_enter Tryz.func130,Tryz.ntmps130;go_wp2_with (go_at_call 155;refine(mi _ _).mono ?_;rintro e w' ⟨rfl,rfl⟩);go_loopw [3] (λi wr=> ∃k:Nat,k<=n/\i=.int .i64 k/\ik xs 0 xs=ik xs k (xs.drop k)/\Below (w.alloc (.cells #[.string nm,.int .i64 d,.slice A n c] 166)).heap.size (w.alloc (.cells #[.string nm,.int .i64 d,.slice A n c] 166)) wr) (λi _=>n-(intOf i).toNat)
 case atStart=>exact⟨0,Nat.zero_le _,rfl,rfl,Below.refl _ _⟩
 case round=>
  obtain⟨k,U,rfl,E,l⟩:=hrel;have f:=Hm E;clear E;have hb:Below w.heap.size w wr:=fH fI l;have Q:wr.cell? ⟨w.heap.size,2,none⟩=some (.slice A n c):=fO l (by simp) (by simp[go_sem]);have V:w.heap.size<wr.heap.size:=by have:=l.size;simp at this;omega
  have F:=Hm l;clear l;by_cases I:k<n
  ·obtain⟨b,off,x,rfl,S,g,N,f1,v,B⟩:=(h.below hb).shift I;have O:=v;have P:=B;unfold jU at v B;by_cases c1:x.at_<1
   ·have a:Hl (1=gT ⟨nm,d,xs⟩):=Hm (by rw[j.o,f.o,g.o];exact(jO (by simp[jL,c1]) (by omega)).symm);go_wp2_with (go_at_call 155;refine(mi _ _).mono ?_;rintro e w' ⟨rfl,rfl⟩);all_goals(try(exfalso;go_light;simp_all;done));all_goals(go_ret;exact⟨fV a.o,fH hb fI⟩)
   by_cases c2:575999999<x.at_
   ·have a:Hl (1=gT ⟨nm,d,xs⟩):=Hm (by rw[j.o,f.o,g.o];exact(jO (by simp[jL,c2]) (by omega)).symm);go_wp2_with (go_at_call 155;refine(mi _ _).mono ?_;rintro e w' ⟨rfl,rfl⟩);all_goals(try(exfalso;go_light;simp_all;done));all_goals(go_ret;exact⟨fV a.o,fH hb fI⟩)
   cases c3:pu x.offset
   ·have a:Hl (1=gT ⟨nm,d,xs⟩):=Hm (by rw[j.o,f.o,g.o];exact(jO (by simp[jL,c3]) (by omega)).symm);go_wp2_with (go_at_call 155;refine(mi _ _).mono ?_;rintro e w' ⟨rfl,rfl⟩);all_goals(try(exfalso;go_light;simp_all;done));all_goals(go_ret;exact⟨fV a.o,fH hb fI⟩)
   have k0:(0:Int)<=(k:Int):=by omega
   have k1:(k:Int)<(n:Int):=by omega
   have D:=fH F.o (fI (o:=.cells #[.int .i64 x.at_,.int .i64 x.offset] 187));have m:=Hm D;have s:=fH hb (fI (o:=.cells #[.int .i64 x.at_,.int .i64 x.offset] 187));clear D;by_cases p:k=0
   ·have q:Hl (ik xs 0 xs=ik xs (k+1) (xs.drop (k+1))):=Hm (by rw[f.o,g.o];exact mV (by simp[jL,c1,c2,c3,p]));have K:decide (0<k)=false:=by simp;omega
    have L:=Hm p;clear p;go_wp2_with (go_at_call 155;refine(mi _ _).mono ?_;rintro e w' ⟨rfl,rfl⟩);all_goals(try(exfalso;go_light;simp_all;done));go_quiet (fail);go_wp2;go_roundw
    case rel=>exact⟨k+1,by omega,by go_num,q.o,by first|exact m.o|exact below_drewN m.o _⟩
    case measure=>simp[intOf];omega
   ·obtain⟨M,aa,y,e,T,G,y0,y1,y2,y3⟩:=(h.below s).shift (show k-1<n by omega);injection e with e;injection e with e_1 e_2;subst e_1 e_2;have u:=Hm (iR G.o).1;have K:decide (0<k)=true:=by simp;omega
    have W:(0:Int)<=(k:Int)-1:=by omega
    have X:(k:Int)-1<(n:Int):=by omega
    have Y:((k:Int)-1).toNat=k-1:=by omega
    have i5:(1:Int)<=(k:Int):=by omega
    have i6:(k:Int)<=(n:Int):=by omega
    have Z:IntKind.i64.wrap ((k:Int)-1)=(k:Int)-1:=IntWalk.i64_in _ (by omega);have H:Hl (0<k):=Hm (by omega);clear p;by_cases c4:x.at_<=y.at_
    ·have a:Hl (14=gT ⟨nm,d,xs⟩):=Hm (by rw[j.o,f.o,g.o];exact(jO (by simp[jL,c1,c2,c3,H.o,u.o,c4]) (by omega)).symm);go_wp2_with (go_at_call 155;refine(mi _ _).mono ?_;rintro e w' ⟨rfl,rfl⟩);all_goals(try(exfalso;go_light;simp_all;done));go_quiet (fail);go_wp2;go_ret;exact⟨fV a.o,by first|exact s|exact below_drewN s _⟩
    ·have q:Hl (ik xs 0 xs=ik xs (k+1) (xs.drop (k+1))):=Hm (by rw[f.o,g.o];exact mV (by simp[jL,c1,c2,c3,u.o,c4]));go_wp2_with (go_at_call 155;refine(mi _ _).mono ?_;rintro e w' ⟨rfl,rfl⟩);all_goals(try(exfalso;go_light;simp_all;done));go_quiet (fail);go_wp2;go_roundw
     case rel=>exact⟨k+1,by omega,by go_num,q.o,by first|exact m.o|exact below_drewN m.o _⟩
     case measure=>simp[intOf];omega
  ·go_wp2;go_ret;exact⟨fV (by rw[j.o,f.o,gG h.len (by omega),ik]),hb⟩
def oM:Nat->List Ent->Int
 | _,[]=> -1
 |k,x::l=>if x.count<0 then k else oM (k+1) l
theorem EG (l:List Ent): ∀k,(decide (0<=oM k l))=!(l.all λx=>decide (0<=x.count)):=by
 induction l with
 |nil=>intro k;rfl
 |cons x l a=>
  intro k;rw[oM];by_cases h:x.count<0
  ·rw[if_pos h];have:¬0<=x.count:=by omega
   simp[this]
  ·rw[if_neg h,a (k+1)];have:0<=x.count:=by omega
   simp[this]
theorem NE (A:Option Addr)(n c:Nat)(m:Int)(w:World):
  Calls Tryz.prog 62 #[.agg #[.slice A n c,.int .i64 m]] w λe w'=>e=.returned (.bool (decide (m<0)))/\Below w.heap.size w w':=by
 go_enter Tryz.func62,Tryz.ntmps62;go_wp2;go_ret;exact⟨rfl,fI⟩
theorem AJ (w:World)(A:Option Addr)(n c:Nat)(xs:List Ent)(d:In w A n c xs):
  Calls Tryz.prog 87 #[.slice A n c,.func (.func 62) #[] #[]] w
   λe w'=>e=.returned (.int .i64 (oM 0 xs))/\Below w.heap.size w w':=by
 have t:=d.le;go_enter Tryz.func87,Tryz.ntmps87;go_wp2;go_loopw [8] (λi wr=> ∃k:Nat,k<=n/\i=.int .i64 k/\oM 0 xs=oM k (xs.drop k)/\Below w.heap.size w wr) (λi _=>n-(intOf i).toNat)
 case atStart=>exact⟨0,Nat.zero_le _,rfl,rfl,Below.refl _ _⟩
 case round=>
  obtain⟨k,v,rfl,j,hb⟩:=hrel;have a:=Hm j;clear j;by_cases r:k<n
  ·obtain⟨b,off,x,rfl,u,f,A',n',c',m,p,q,s⟩:=(d.below hb).ent r;go_wp2_with fail;refine(NE _ _ _ _ _).mono ?_;rintro e y ⟨rfl,g⟩;have h:=fH hb g;clear g m p q;by_cases l:x.count<0
   ·have hd:decide (x.count<0)=true:=by simp[l]
    go_wp2;all_goals(try(exfalso;go_light;simp_all;done));go_ret;exact⟨fV (by rw[a.o,f.o,oM,if_pos l]),h⟩
   ·have hd:decide (x.count<0)=false:=by simp;omega
    go_wp2;all_goals(try(exfalso;go_light;simp_all;done));go_roundw
    case rel=>exact⟨k+1,by omega,by go_num,by rw[a.o,f.o,oM,if_neg (by omega)],h⟩
    case measure=>simp[intOf];omega
  ·go_wp2;go_ret;exact⟨fV (by rw[a.o,gG d.len (by omega),oM]),hb⟩
theorem xg (w:World)(A:Option Addr)(n c:Nat)(xs:List Ent)(b:In w A n c xs):
  Calls Tryz.prog 61 #[.slice A n c,.func (.func 62) #[] #[]] w
   λe w'=>e=.returned (.bool (decide (0<=oM 0 xs)))/\Below w.heap.size w w':=by
 go_enter Tryz.func61,Tryz.ntmps61;go_wp2_with fail;refine(AJ _ _ _ _ xs b).mono ?_;rintro e d ⟨rfl,a⟩;go_wp2;go_ret;exact⟨rfl,a⟩
theorem xP (w:World)(A:Option Addr)(n c:Nat)(xs:List Ent)(d:In w A n c xs):
  Calls Tryz.prog 36 #[.slice A n c] w λe w'=>e=.returned (.bool (jJ xs))/\Below w.heap.size w w':=by
 go_enter Tryz.func36,Tryz.ntmps36;go_wp2_with fail;refine(Cs _ _ _ _ xs d).mono ?_;rintro e j ⟨rfl,a⟩;cases f:(gN xs==0)
 ·go_wp2;all_goals(try(exfalso;go_light;simp_all;done));go_ret;exact⟨gp (by rw[jJ,f];rfl),a⟩
 ·go_wp2_with fail;all_goals(try(exfalso;go_light;simp_all;done));refine(xg _ _ _ _ xs (d.below a)).mono ?_;rintro e k ⟨rfl,b⟩;have i:=fH a b;have g:=Hm (EG xs 0);clear b;go_wp2;all_goals(try(exfalso;go_light;simp_all;done));go_ret;refine⟨gp ?_,i⟩;go_light;rw[jJ,f];have:=g.o;cases h:(xs.all λx=>decide (0<=x.count))<;>rw[h]at this<;>simp_all
theorem G5 (w:World)(A:Option Addr)(n c:Nat)(a:List Ent)(p:In w A n c a):
  Calls Tryz.prog 74 #[.slice A n c] w λe w'=>e=.returned (.int .i64 (gN a))/\Below w.heap.size w w':=by
 have Z:=p.le;have O:=Hm p.len;go_enter Tryz.func74,Tryz.ntmps74;by_cases hs:4096<n
 ·have d:Hl (2=gN a):=Hm (by rw[gN,O.o,if_pos hs]);go_wp2;go_ret;exact⟨fV d.o,Below.refl _ _⟩
 have r:Hl (gN a=fQ (jr a) 0 a):=Hm (by rw[gN,O.o,if_neg hs]);have ad:n<=4096:=by omega
 clear hs;go_wp2;go_loopw [3] (λi wr=> ∃k:Nat,k<=n/\i=.int .i64 k/\fQ (jr a) 0 a=fQ (jr a) k (a.drop k)/\Below w.heap.size w wr) (λi _=>n-(intOf i).toNat)
 case atStart=>exact⟨0,Nat.zero_le _,rfl,rfl,Below.refl _ _⟩
 case round=>
  obtain⟨k,hk,rfl,N,hb⟩:=hrel;have v:=Hm N;clear N;by_cases P:k<n
  ·obtain⟨b,off,x,rfl,B,G,A',n',c',s,H,y,I⟩:=(p.below hb).ent P;go_wp2_with fail;refine(BI _ A' n' c' x y I).mono ?_;rintro e X ⟨rfl,g⟩;have l:=fH hb g;replace s:=fO g B s;replace H:=fO g B H;have S:=y.below g;have aa:b<X.heap.size:=Nat.lt_of_lt_of_le B g.size;obtain⟨ab,ac⟩:=I;clear g y;by_cases f:ib x=0
   ·rw[f];have q:Hl (fQ (jr a) 0 a=if x.count=0 then 8 else if 0<k/\0<=gq (a.getD (k-1) default).row x.row then 14 else fQ (jr a) (k+1) (a.drop (k+1))):=Hm (by
     rw[v.o,G.o];by_cases j:x.count=0
     ·rw[if_pos j];exact gL (by rw[kz,if_neg (by simp[f]),if_pos j]) (by omega)
     ·by_cases u:0<k/\0<=gq (a.getD (k-1) default).row x.row
      ·rw[if_neg j,if_pos u];exact gL (by rw[kz,if_neg (by simp[f]),if_neg j,if_pos u]) (by omega)
      ·rw[if_neg j,if_neg u];exact ig (by rw[kz,if_neg (by simp[f]),if_neg j,if_neg u]))
    clear f;cases m:(x.count==0)
    ·have D:¬x.count=0:=by simpa using m
     by_cases z:0<k
     ·obtain⟨Y,af,E,Q,c0,t,e,L,J,f1,F⟩:=In.prev (p.below l) P z;injection e with e;injection e with e_1 e_2;subst e_1 e_2;have i0:(0:Int)<(k:Int):=by omega
      have T:(0:Int)<=(k:Int)-1:=by omega
      have U:(k:Int)-1<(n:Int):=by omega
      have V:((k:Int)-1).toNat=k-1:=by omega
      have i5:(1:Int)<=(k:Int):=by omega
      have i6:(k:Int)<=(n:Int):=by omega
      have i7:(k:Int)<(n:Int):=by omega
      have i8:(0:Int)<=(k:Int):=by omega
      have W:IntKind.i64.wrap ((k:Int)-1)=(k:Int)-1:=IntWalk.i64_in _ (by omega);go_wp2_with fail;go_region_held3 (λw'=>w'.cell? ⟨b,off+(k-1)*2,none⟩=some (.slice E Q c0)/\w'.cell? ⟨b,off+k*2,none⟩=some (.slice A' n' c')) (first|exact⟨J,s⟩|(have m:=fP C;exact⟨fO m L J,fO m L s⟩)) (first|(go_at_call 64;refine(oZ _ E A' Q n' c0 c' t x.row (by exact f1) (by exact S)).mono ?_;rintro e w2 ⟨rfl,C⟩));have K:=fH l (fP C);clear C W V U T;by_cases M:0<=gq t x.row
      ·have d:Hl (14=gN a):=Hm (by rw[r.o,q.o,F.o,if_neg D,if_pos ⟨z,M⟩]);have hd:decide (0<=gq t x.row)=true:=by simp;omega
       go_wp2;all_goals(try(exfalso;go_light;simp_all;done));go_ret;exact⟨fV d.o,K⟩
      ·have d:Hl (fQ (jr a) 0 a=fQ (jr a) (k+1) (a.drop (k+1))):=Hm (by rw[q.o,F.o,if_neg D,if_neg (λh=>M h.2)]);have hd:decide (0<=gq t x.row)=false:=by simp;omega
       go_wp2;all_goals(try(exfalso;go_light;simp_all;done));go_roundw
       case rel=>exact⟨k+1,by omega,by go_num,d.o,K⟩
       case measure=>simp[intOf];omega
     ·have R:k=0:=by omega
      have d:Hl (fQ (jr a) 0 a=fQ (jr a) (k+1) (a.drop (k+1))):=Hm (by rw[q.o,if_neg D,if_neg (λh=>z h.1)]);subst R;go_wp2;go_quiet (fail);go_wp2;go_roundw
      case rel=>exact⟨0+1,by omega,by go_num,d.o,iH l⟩
      case measure=>simp[intOf];omega
    ·have d:Hl (8=gN a):=Hm (by rw[r.o,q.o,if_pos (by simpa using m)]);go_wp2;go_ret;exact⟨fV d.o,l⟩
   ·have ae:(ib x==0)=false:=by simp[f]
    have d:Hl (ib x=gN a):=Hm (by rw[r.o,v.o,G.o];exact(gL (by rw[kz,if_pos f]) f).symm);go_wp2;all_goals(try(exfalso;go_light;simp_all;done));go_ret;exact⟨fV d.o,l⟩
  ·go_wp2;go_ret;exact⟨fV (by rw[r.o,v.o,gG p.len (by omega),fQ]),hb⟩
def pos (b:List Ent):Bool:=b.all λx=>decide (0<x.count)
theorem EN (x:Ent)(l:List Ent):pos (x::l)=(decide (0<x.count)&&pos l):=rfl
theorem Dl (w:World)(A:Option Addr)(n c:Nat)(xs:List Ent)(d:In w A n c xs):
  Calls Tryz.prog 134 #[.slice A n c] w λe w'=>e=.returned (.bool (pos xs))/\w=w':=by
 have q:=d.le;go_enter Tryz.func134,Tryz.ntmps134;go_wp2
 go_loop [3] (λi=> ∃k:Nat,k<=n/\i=.int .i64 k/\pos xs=pos (xs.drop k)) (λi=>n-(intOf i).toNat)
 case atStart=>exact⟨0,Nat.zero_le _,rfl,rfl⟩
 case round=>
  obtain⟨k,s,rfl,g⟩:=hrel;have a:=Hm g;clear g;by_cases h:k<n
  ·obtain⟨b,off,x,rfl,r,f,A',n',c',j,l,m,p⟩:=d.ent h;by_cases t:x.count<=0
   ·go_wp2;all_goals(try(exfalso;go_light;simp_all;done));go_ret;exact⟨gp (by rw[a.o,f.o,EN];simp;omega),rfl⟩
   ·go_wp2;all_goals(try(exfalso;go_light;simp_all;done))
    go_round
    case rel=>exact⟨k+1,by omega,by go_num,by rw[a.o,f.o,EN];simp;omega⟩
    case measure=>simp[intOf];omega
  ·go_wp2;go_ret;exact⟨gp (by rw[a.o,gG d.len (by omega)];rfl),rfl⟩
theorem O3 (b:List Ent)(l:List Ent): ∀k,fQ (jr b) k l=0-> ∀x∈l,x.count≠0:=by
 induction l with
 |nil=>intro k _ x c;cases c
 |cons y l f=>
  intro k h x c;by_cases a:jr b k y=0
  ·rw[ig a]at h;cases c with
   |head=>
    intro e;rw[kz]at a;by_cases d:ib y=0
    ·rw[if_neg (by simp[d]),if_pos e]at a;omega
    ·rw[if_pos d]at a;exact d a
   |tail _ c=>exact f _ h x c
  ·rw[gL rfl a]at h;exact absurd h a
theorem Et {b:List Ent}(h:gN b=0):jJ b=pos b:=by
 have d: ∀x∈b,x.count≠0:=by
  rw[gN]at h;by_cases c:4096<b.length
  ·rw[if_pos c]at h;omega
  ·rw[if_neg c]at h;exact O3 b b 0 h
 rw[jJ,h,pos];simp only[beq_self_eq_true,Bool.true_and];rw[Bool.eq_iff_iff,List.all_eq_true,List.all_eq_true];constructor
 ·intro h x a;have:=h x a;have:=d x a;simp only[decide_eq_true_eq]at*;omega
 ·intro h x a;have:=h x a;simp only[decide_eq_true_eq]at*;omega
theorem Eu (w:World)(A:Option Addr)(n c:Nat)(xs:List Ent)(d:In w A n c xs):
  Calls Tryz.prog 94 #[.slice A n c] w λe w'=>e=.returned (.bool (jJ xs))/\Below w.heap.size w w':=by
 go_enter Tryz.func94,Tryz.ntmps94;go_wp2_with fail;refine(G5 _ _ _ _ xs d).mono ?_;rintro e h ⟨rfl,a⟩;cases f:(gN xs==0)
 ·go_wp2;all_goals(try(exfalso;go_light;simp_all;done));go_ret;exact⟨gp (by rw[jJ,f];rfl),a⟩
 ·have g:=Hm (Et (b:=xs) (by simpa using f));go_wp2_with fail;all_goals(try(exfalso;go_light;simp_all;done));refine(Dl _ _ _ _ xs (d.below a)).mono ?_;rintro e i ⟨rfl,rfl⟩;go_wp2;all_goals(try(exfalso;go_light;simp_all;done));go_ret;exact⟨gp g.o.symm,a⟩
end Go.Proofs.YtopjjlmfilgngaaGreatDoor
