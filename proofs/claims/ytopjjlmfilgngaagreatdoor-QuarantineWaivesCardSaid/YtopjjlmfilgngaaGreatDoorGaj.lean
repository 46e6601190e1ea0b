/-
  zone.Validate and warehouseref4.Validate: both return zoneErr. bag.IsTable; warehouseref6.Validate, positive, IsTable.
-/
import Derived.Test.YtopjjlmfilgngaaGreatDoorProg
import Derived.Test.YtopjjlmfilgngaaGreatDoorGac
import Derived.Test.YtopjjlmfilgngaaGreatDoorGaa
import Derived.Test.YtopjjlmfilgngaaGreatDoorGad
namespace Go.Proofs.YtopjjlmfilgngaaGreatDoor
set_option maxHeartbeats 2000000
set_option maxRecDepth 100000
open Go.RowKit
set_option linter.unusedSimpArgs false
set_option linter.unusedVariables false
theorem jb (m:Int)(w:World):Calls Tryz.prog 254 #[.int .i64 m] w λe w'=>e=.returned (.bool (lT m))/\w=w':=by
 go_enter Tryz.func254,Tryz.ntmps254;go_wp2;all_goals (go_ret;refine ⟨ay ?_,rfl⟩;go_light;unfold lT;first|(simp_all;done)|(simp_all;omega))
theorem ji (m:Int)(w:World):Calls Tryz.prog 155 #[.int .i64 m] w λe w'=>e=.returned (.bool (lT m))/\w=w':=by
 go_enter Tryz.func155,Tryz.ntmps155;go_wp2;all_goals (go_ret;refine ⟨ay ?_,rfl⟩;go_light;unfold lT;first|(simp_all;done)|(simp_all;omega))
theorem In.shift {w:World}{A:Option Addr}{n c k:Nat}{xs:List Shift}(h:In w A n c xs)(hk:k<n): ∃b off x,A=some ⟨b,off,none⟩/\b<w.heap.size/\Hid (xs.drop k=x :: xs.drop (k+1))/\
  w.cell? ⟨b,off+k*2,none⟩=some (.int .i64 x.at_)/\w.cell? ⟨b,off+k*2+1,none⟩=some (.int .i64 x.offset)/\eZ x.at_/\eZ x.offset:=by
 obtain ⟨b,off,x,e,hb,hx,cs,⟨rfl,hv⟩,hc⟩:=h.get hk;exact ⟨b,off,x,e,hb,hx,hc 0 (by simp[Shift.cells]),hc 1 (by simp[Shift.cells]),hv⟩
theorem jL {l r:List Shift}{k:Nat}{x:Shift}(h:eB l k x=0):aZ l k (x :: r)=aZ l (k+1) r:=by simp[aZ,h]
theorem eG {l r:List Shift}{k:Nat}{x:Shift}{e:Int}(h:eB l k x=e)(he:e≠0):aZ l k (x :: r)=e:=by simp[aZ,h,he]
theorem O0 (w:World)(A:Option Addr)(n c:Nat)(z:Zone)(hx:In w A n c z.shifts)(ho:eZ z.offset):
  Calls Tryz.prog 234 #[.agg #[.string z.name,.int .i64 z.offset,.slice A n c]] w λe w'=>e=.returned (.int .i64 (aP z))/\Below w.heap.size w w':=by
 obtain ⟨nm,oh,xs⟩:=z;simp only at hx ho⊢;have h63:=hx.le;have hlen:=hide hx.len;by_cases h1:64<n
 ·have he:Hid (2=aP ⟨nm,oh,xs⟩):=hide (by simp only[aP];rw[hlen.out,if_pos h1]);go_enter Tryz.func234,Tryz.ntmps234;go_wp2;all_goals (go_ret;exact ⟨ax he.out,ae⟩)
 cases h2:lT oh
 ·have he:Hid (1=aP ⟨nm,oh,xs⟩):=hide (by simp only[aP];rw[hlen.out,if_neg h1,if_pos h2]);go_enter Tryz.func234,Tryz.ntmps234;go_wp2_with (go_at_call 254;refine (jb _ _).mono ?_;rintro e w' ⟨rfl,rfl⟩);all_goals (go_ret;exact ⟨ax he.out,ae⟩)
 have jR:Hid (aP ⟨nm,oh,xs⟩=aZ xs 0 xs):=hide (by simp only[aP];rw[hlen.out,if_neg h1,if_neg (by simp[h2])]);go_enter Tryz.func234,Tryz.ntmps234;go_wp2_with (go_at_call 254;refine (jb _ _).mono ?_;rintro e w' ⟨rfl,rfl⟩);go_loopw [16] (λi wr=> ∃k:Nat,k<=n/\i=.int .i64 k/\aZ xs 0 xs=aZ xs k (xs.drop k)/\Below (w.alloc (.cells #[.string nm,.int .i64 oh,.slice A n c] 166)).heap.size (w.alloc (.cells #[.string nm,.int .i64 oh,.slice A n c] 166)) wr) (λi _=>n-(intOf i).toNat)
 case atStart=>exact ⟨0,Nat.zero_le _,rfl,rfl,Below.refl _ _⟩
 case round=>
  obtain ⟨k,hk,rfl,heq,hb0⟩:=hrel;have HE:=hide heq;clear heq;have hb:Below w.heap.size w wr:=aa ae hb0;have g0:wr.cell? ⟨w.heap.size,2,none⟩=some (.slice A n c):=ah hb0 (by simp) (by simp[go_sem]);have hsz:w.heap.size<wr.heap.size:=by have:=hb0.size;simp at this;omega
  have HB0:=hide hb0;clear hb0;by_cases hlt:k<n
  ·obtain ⟨b,off,x,rfl,hB,HX,f0,f1,f2,f3⟩:=(hx.below hb).shift hlt;have f2':=f2;have f3':=f3;unfold eZ at f2 f3;by_cases c1:x.at_<1
   ·have he:Hid (1=aP ⟨nm,oh,xs⟩):=hide (by rw[jR.out,HE.out,HX.out];exact (eG (by simp[eB,c1]) (by omega)).symm);go_wp2_with (go_at_call 254;refine (jb _ _).mono ?_;rintro e w' ⟨rfl,rfl⟩);all_goals (try (exfalso;go_light;simp_all;done));all_goals (go_ret;exact ⟨ax he.out,aa hb ae⟩)
   by_cases c2:575999999<x.at_
   ·have he:Hid (1=aP ⟨nm,oh,xs⟩):=hide (by rw[jR.out,HE.out,HX.out];exact (eG (by simp[eB,c2]) (by omega)).symm);go_wp2_with (go_at_call 254;refine (jb _ _).mono ?_;rintro e w' ⟨rfl,rfl⟩);all_goals (try (exfalso;go_light;simp_all;done));all_goals (go_ret;exact ⟨ax he.out,aa hb ae⟩)
   cases c3:lT x.offset
   ·have he:Hid (1=aP ⟨nm,oh,xs⟩):=hide (by rw[jR.out,HE.out,HX.out];exact (eG (by simp[eB,c3]) (by omega)).symm);go_wp2_with (go_at_call 254;refine (jb _ _).mono ?_;rintro e w' ⟨rfl,rfl⟩);all_goals (try (exfalso;go_light;simp_all;done));all_goals (go_ret;exact ⟨ax he.out,aa hb ae⟩)
   have k0:(0:Int)<=(k:Int):=by omega
   have k1:(k:Int)<(n:Int):=by omega
   have hbk:=aa HB0.out (ae (o:=.cells #[.int .i64 x.at_,.int .i64 x.offset] 187));have Ey:=hide hbk;have hbb:=aa hb (ae (o:=.cells #[.int .i64 x.at_,.int .i64 x.offset] 187));clear hbk;by_cases hk0:k=0
   ·have HR:Hid (aZ xs 0 xs=aZ xs (k+1) (xs.drop (k+1))):=hide (by rw[HE.out,HX.out];exact jL (by simp[eB,c1,c2,c3,hk0]));have q0:decide (0<k)=false:=by simp;omega
    have PI:=hide hk0;clear hk0;go_wp2_with (go_at_call 254;refine (jb _ _).mono ?_;rintro e w' ⟨rfl,rfl⟩);all_goals (try (exfalso;go_light;simp_all;done));go_quiet (fail);go_wp2;go_roundw
    case rel=>exact ⟨k+1,by omega,by go_num,HR.out,by first|exact Ey.out|exact below_drewN Ey.out _⟩
    case measure=>simp[intOf];omega
   ·obtain ⟨b',off',y,e,hB',HY,y0,y1,y2,y3⟩:=(hx.below hbb).shift (show k-1<n by omega);injection e with e;injection e with e_1 e_2;subst e_1 e_2;have HP:=hide (bX HY.out).1;have q0:decide (0<k)=true:=by simp;omega
    have i1:(0:Int)<=(k:Int)-1:=by omega
    have i2:(k:Int)-1<(n:Int):=by omega
    have i3:((k:Int)-1).toNat=k-1:=by omega
    have i5:(1:Int)<=(k:Int):=by omega
    have i6:(k:Int)<=(n:Int):=by omega
    have i4:IntKind.i64.wrap ((k:Int)-1)=(k:Int)-1:=IntWalk.i64_in _ (by omega);have P0:Hid (0<k):=hide (by omega);clear hk0;by_cases c4:x.at_<=y.at_
    ·have he:Hid (14=aP ⟨nm,oh,xs⟩):=hide (by rw[jR.out,HE.out,HX.out];exact (eG (by simp[eB,c1,c2,c3,P0.out,HP.out,c4]) (by omega)).symm);go_wp2_with (go_at_call 254;refine (jb _ _).mono ?_;rintro e w' ⟨rfl,rfl⟩);all_goals (try (exfalso;go_light;simp_all;done));go_quiet (fail);go_wp2;go_ret;exact ⟨ax he.out,by first|exact hbb|exact below_drewN hbb _⟩
    ·have HR:Hid (aZ xs 0 xs=aZ xs (k+1) (xs.drop (k+1))):=hide (by rw[HE.out,HX.out];exact jL (by simp[eB,c1,c2,c3,HP.out,c4]));go_wp2_with (go_at_call 254;refine (jb _ _).mono ?_;rintro e w' ⟨rfl,rfl⟩);all_goals (try (exfalso;go_light;simp_all;done));go_quiet (fail);go_wp2;go_roundw
     case rel=>exact ⟨k+1,by omega,by go_num,HR.out,by first|exact Ey.out|exact below_drewN Ey.out _⟩
     case measure=>simp[intOf];omega
  ·go_wp2;go_ret;exact ⟨ax (by rw[jR.out,HE.out,aI hx.len (by omega),aZ]),hb⟩
theorem O3 (w:World)(A:Option Addr)(n c:Nat)(z:Zone)(hx:In w A n c z.shifts)(ho:eZ z.offset):
  Calls Tryz.prog 130 #[.agg #[.string z.name,.int .i64 z.offset,.slice A n c]] w λe w'=>e=.returned (.int .i64 (aP z))/\Below w.heap.size w w':=by
 obtain ⟨nm,oh,xs⟩:=z;simp only at hx ho⊢;have h63:=hx.le;have hlen:=hide hx.len;by_cases h1:64<n
 ·have he:Hid (2=aP ⟨nm,oh,xs⟩):=hide (by simp only[aP];rw[hlen.out,if_pos h1]);go_enter Tryz.func130,Tryz.ntmps130;go_wp2;all_goals (go_ret;exact ⟨ax he.out,ae⟩)
 cases h2:lT oh
 ·have he:Hid (1=aP ⟨nm,oh,xs⟩):=hide (by simp only[aP];rw[hlen.out,if_neg h1,if_pos h2]);go_enter Tryz.func130,Tryz.ntmps130;go_wp2_with (go_at_call 155;refine (ji _ _).mono ?_;rintro e w' ⟨rfl,rfl⟩);all_goals (go_ret;exact ⟨ax he.out,ae⟩)
 have jR:Hid (aP ⟨nm,oh,xs⟩=aZ xs 0 xs):=hide (by simp only[aP];rw[hlen.out,if_neg h1,if_neg (by simp[h2])]);go_enter Tryz.func130,Tryz.ntmps130;go_wp2_with (go_at_call 155;refine (ji _ _).mono ?_;rintro e w' ⟨rfl,rfl⟩);go_loopw [3] (λi wr=> ∃k:Nat,k<=n/\i=.int .i64 k/\aZ xs 0 xs=aZ xs k (xs.drop k)/\Below (w.alloc (.cells #[.string nm,.int .i64 oh,.slice A n c] 166)).heap.size (w.alloc (.cells #[.string nm,.int .i64 oh,.slice A n c] 166)) wr) (λi _=>n-(intOf i).toNat)
 case atStart=>exact ⟨0,Nat.zero_le _,rfl,rfl,Below.refl _ _⟩
 case round=>
  obtain ⟨k,hk,rfl,heq,hb0⟩:=hrel;have HE:=hide heq;clear heq;have hb:Below w.heap.size w wr:=aa ae hb0;have g0:wr.cell? ⟨w.heap.size,2,none⟩=some (.slice A n c):=ah hb0 (by simp) (by simp[go_sem]);have hsz:w.heap.size<wr.heap.size:=by have:=hb0.size;simp at this;omega
  have HB0:=hide hb0;clear hb0;by_cases hlt:k<n
  ·obtain ⟨b,off,x,rfl,hB,HX,f0,f1,f2,f3⟩:=(hx.below hb).shift hlt;have f2':=f2;have f3':=f3;unfold eZ at f2 f3;by_cases c1:x.at_<1
   ·have he:Hid (1=aP ⟨nm,oh,xs⟩):=hide (by rw[jR.out,HE.out,HX.out];exact (eG (by simp[eB,c1]) (by omega)).symm);go_wp2_with (go_at_call 155;refine (ji _ _).mono ?_;rintro e w' ⟨rfl,rfl⟩);all_goals (try (exfalso;go_light;simp_all;done));all_goals (go_ret;exact ⟨ax he.out,aa hb ae⟩)
   by_cases c2:575999999<x.at_
   ·have he:Hid (1=aP ⟨nm,oh,xs⟩):=hide (by rw[jR.out,HE.out,HX.out];exact (eG (by simp[eB,c2]) (by omega)).symm);go_wp2_with (go_at_call 155;refine (ji _ _).mono ?_;rintro e w' ⟨rfl,rfl⟩);all_goals (try (exfalso;go_light;simp_all;done));all_goals (go_ret;exact ⟨ax he.out,aa hb ae⟩)
   cases c3:lT x.offset
   ·have he:Hid (1=aP ⟨nm,oh,xs⟩):=hide (by rw[jR.out,HE.out,HX.out];exact (eG (by simp[eB,c3]) (by omega)).symm);go_wp2_with (go_at_call 155;refine (ji _ _).mono ?_;rintro e w' ⟨rfl,rfl⟩);all_goals (try (exfalso;go_light;simp_all;done));all_goals (go_ret;exact ⟨ax he.out,aa hb ae⟩)
   have k0:(0:Int)<=(k:Int):=by omega
   have k1:(k:Int)<(n:Int):=by omega
   have hbk:=aa HB0.out (ae (o:=.cells #[.int .i64 x.at_,.int .i64 x.offset] 187));have Ey:=hide hbk;have hbb:=aa hb (ae (o:=.cells #[.int .i64 x.at_,.int .i64 x.offset] 187));clear hbk;by_cases hk0:k=0
   ·have HR:Hid (aZ xs 0 xs=aZ xs (k+1) (xs.drop (k+1))):=hide (by rw[HE.out,HX.out];exact jL (by simp[eB,c1,c2,c3,hk0]));have q0:decide (0<k)=false:=by simp;omega
    have PI:=hide hk0;clear hk0;go_wp2_with (go_at_call 155;refine (ji _ _).mono ?_;rintro e w' ⟨rfl,rfl⟩);all_goals (try (exfalso;go_light;simp_all;done));go_quiet (fail);go_wp2;go_roundw
    case rel=>exact ⟨k+1,by omega,by go_num,HR.out,by first|exact Ey.out|exact below_drewN Ey.out _⟩
    case measure=>simp[intOf];omega
   ·obtain ⟨b',off',y,e,hB',HY,y0,y1,y2,y3⟩:=(hx.below hbb).shift (show k-1<n by omega);injection e with e;injection e with e_1 e_2;subst e_1 e_2;have HP:=hide (bX HY.out).1;have q0:decide (0<k)=true:=by simp;omega
    have i1:(0:Int)<=(k:Int)-1:=by omega
    have i2:(k:Int)-1<(n:Int):=by omega
    have i3:((k:Int)-1).toNat=k-1:=by omega
    have i5:(1:Int)<=(k:Int):=by omega
    have i6:(k:Int)<=(n:Int):=by omega
    have i4:IntKind.i64.wrap ((k:Int)-1)=(k:Int)-1:=IntWalk.i64_in _ (by omega);have P0:Hid (0<k):=hide (by omega);clear hk0;by_cases c4:x.at_<=y.at_
    ·have he:Hid (14=aP ⟨nm,oh,xs⟩):=hide (by rw[jR.out,HE.out,HX.out];exact (eG (by simp[eB,c1,c2,c3,P0.out,HP.out,c4]) (by omega)).symm);go_wp2_with (go_at_call 155;refine (ji _ _).mono ?_;rintro e w' ⟨rfl,rfl⟩);all_goals (try (exfalso;go_light;simp_all;done));go_quiet (fail);go_wp2;go_ret;exact ⟨ax he.out,by first|exact hbb|exact below_drewN hbb _⟩
    ·have HR:Hid (aZ xs 0 xs=aZ xs (k+1) (xs.drop (k+1))):=hide (by rw[HE.out,HX.out];exact jL (by simp[eB,c1,c2,c3,HP.out,c4]));go_wp2_with (go_at_call 155;refine (ji _ _).mono ?_;rintro e w' ⟨rfl,rfl⟩);all_goals (try (exfalso;go_light;simp_all;done));go_quiet (fail);go_wp2;go_roundw
     case rel=>exact ⟨k+1,by omega,by go_num,HR.out,by first|exact Ey.out|exact below_drewN Ey.out _⟩
     case measure=>simp[intOf];omega
  ·go_wp2;go_ret;exact ⟨ax (by rw[jR.out,HE.out,aI hx.len (by omega),aZ]),hb⟩
def lu:Nat->List Ent->Int
 | _,[]=> -1
 |k,x :: l=>if x.count<0 then k else lu (k+1) l
theorem FU (l:List Ent): ∀k,(decide (0<=lu k l))=!(l.all λx=>decide (0<=x.count)):=by
 induction l with
 |nil=>intro k;rfl
 |cons x l ih=>
  intro k;rw[lu];by_cases h:x.count<0
  ·rw[if_pos h];have:¬0<=x.count:=by omega
   simp[this]
  ·rw[if_neg h,ih (k+1)];have:0<=x.count:=by omega
   simp[this]
theorem Q3 (A:Option Addr)(n c:Nat)(m:Int)(w:World):
  Calls Tryz.prog 62 #[.agg #[.slice A n c,.int .i64 m]] w λe w'=>e=.returned (.bool (decide (m<0)))/\Below w.heap.size w w':=by
 go_enter Tryz.func62,Tryz.ntmps62;go_wp2;go_ret;exact ⟨rfl,ae⟩
theorem Br (w:World)(A:Option Addr)(n c:Nat)(xs:List Ent)(hx:In w A n c xs):
  Calls Tryz.prog 87 #[.slice A n c,.func (.func 62) #[] #[]] w
   λe w'=>e=.returned (.int .i64 (lu 0 xs))/\Below w.heap.size w w':=by
 have h63:=hx.le;go_enter Tryz.func87,Tryz.ntmps87;go_wp2;go_loopw [8] (λi wr=> ∃k:Nat,k<=n/\i=.int .i64 k/\lu 0 xs=lu k (xs.drop k)/\Below w.heap.size w wr) (λi _=>n-(intOf i).toNat)
 case atStart=>exact ⟨0,Nat.zero_le _,rfl,rfl,Below.refl _ _⟩
 case round=>
  obtain ⟨k,hk,rfl,heq,hb⟩:=hrel;have HE:=hide heq;clear heq;by_cases hlt':k<n
  ·obtain ⟨b,off,x,rfl,hB,HX,A',n',c',e0,e1,e2,e3⟩:=(hx.below hb).ent hlt';go_wp2_with fail;refine (Q3 _ _ _ _ _).mono ?_;rintro e w1 ⟨rfl,hb1⟩;have hbb:=aa hb hb1;clear hb1 e0 e1 e2;by_cases hz:x.count<0
   ·have hd:decide (x.count<0)=true:=by simp[hz]
    go_wp2;all_goals (try (exfalso;go_light;simp_all;done));go_ret;exact ⟨ax (by rw[HE.out,HX.out,lu,if_pos hz]),hbb⟩
   ·have hd:decide (x.count<0)=false:=by simp;omega
    go_wp2;all_goals (try (exfalso;go_light;simp_all;done));go_roundw
    case rel=>exact ⟨k+1,by omega,by go_num,by rw[HE.out,HX.out,lu,if_neg (by omega)],hbb⟩
    case measure=>simp[intOf];omega
  ·go_wp2;go_ret;exact ⟨ax (by rw[HE.out,aI hx.len (by omega),lu]),hb⟩
theorem wu (w:World)(A:Option Addr)(n c:Nat)(xs:List Ent)(hx:In w A n c xs):
  Calls Tryz.prog 61 #[.slice A n c,.func (.func 62) #[] #[]] w
   λe w'=>e=.returned (.bool (decide (0<=lu 0 xs)))/\Below w.heap.size w w':=by
 go_enter Tryz.func61,Tryz.ntmps61;go_wp2_with fail;refine (Br _ _ _ _ xs hx).mono ?_;rintro e w1 ⟨rfl,hb1⟩;go_wp2;go_ret;exact ⟨rfl,hb1⟩
theorem xh (w:World)(A:Option Addr)(n c:Nat)(xs:List Ent)(hx:In w A n c xs):
  Calls Tryz.prog 36 #[.slice A n c] w λe w'=>e=.returned (.bool (dZ xs))/\Below w.heap.size w w':=by
 go_enter Tryz.func36,Tryz.ntmps36;go_wp2_with fail;refine (Di _ _ _ _ xs hx).mono ?_;rintro e w1 ⟨rfl,hb1⟩;cases hz:(aL xs==0)
 ·go_wp2;all_goals (try (exfalso;go_light;simp_all;done));go_ret;exact ⟨ay (by rw[dZ,hz];rfl),hb1⟩
 ·go_wp2_with fail;all_goals (try (exfalso;go_light;simp_all;done));refine (wu _ _ _ _ xs (hx.below hb1)).mono ?_;rintro e w2 ⟨rfl,hb2⟩;have hbb:=aa hb1 hb2;have HN:=hide (FU xs 0);clear hb2;go_wp2;all_goals (try (exfalso;go_light;simp_all;done));go_ret;refine ⟨ay ?_,hbb⟩;go_light;rw[dZ,hz];have:=HN.out;cases h:(xs.all λx=>decide (0<=x.count)) <;> rw[h]at this <;> simp_all
theorem Jf (w:World)(A:Option Addr)(n c:Nat)(bs:List Ent)(hx:In w A n c bs):
  Calls Tryz.prog 74 #[.slice A n c] w λe w'=>e=.returned (.int .i64 (aL bs))/\Below w.heap.size w w':=by
 have h63:=hx.le;have hlen:=hide hx.len;go_enter Tryz.func74,Tryz.ntmps74;by_cases hs:4096<n
 ·have he:Hid (2=aL bs):=hide (by rw[aL,hlen.out,if_pos hs]);go_wp2;go_ret;exact ⟨ax he.out,Below.refl _ _⟩
 have jR:Hid (aL bs=ai (dF bs) 0 bs):=hide (by rw[aL,hlen.out,if_neg hs]);have hs1:n<=4096:=by omega
 clear hs;go_wp2;go_loopw [3] (λi wr=> ∃k:Nat,k<=n/\i=.int .i64 k/\ai (dF bs) 0 bs=ai (dF bs) k (bs.drop k)/\Below w.heap.size w wr) (λi _=>n-(intOf i).toNat)
 case atStart=>exact ⟨0,Nat.zero_le _,rfl,rfl,Below.refl _ _⟩
 case round=>
  obtain ⟨k,hk,rfl,heq,hb⟩:=hrel;have HE:=hide heq;clear heq;by_cases hlt:k<n
  ·obtain ⟨b,off,x,rfl,hB,HX,A',n',c',e0,e1,e2,e3⟩:=(hx.below hb).ent hlt;go_wp2_with fail;refine (Cj _ A' n' c' x e2 e3).mono ?_;rintro e w1 ⟨rfl,hb1⟩;have hbb:=aa hb hb1;replace e0:=ah hb1 hB e0;replace e1:=ah hb1 hB e1;have hin1:=e2.below hb1;have hB1:b<w1.heap.size:=Nat.lt_of_lt_of_le hB hb1.size;obtain ⟨hm1,hm2⟩:=e3;clear hb1 e2;by_cases hz:aV x=0
   ·rw[hz];have HC:Hid (ai (dF bs) 0 bs=if x.count=0 then 8 else if 0<k/\0<=aA (bs.getD (k-1) default).row x.row then 14 else ai (dF bs) (k+1) (bs.drop (k+1))):=hide (by
     rw[HE.out,HX.out];by_cases q1:x.count=0
     ·rw[if_pos q1];exact aK (by rw[gq,if_neg (by simp[hz]),if_pos q1]) (by omega)
     ·by_cases q2:0<k/\0<=aA (bs.getD (k-1) default).row x.row
      ·rw[if_neg q1,if_pos q2];exact aK (by rw[gq,if_neg (by simp[hz]),if_neg q1,if_pos q2]) (by omega)
      ·rw[if_neg q1,if_neg q2];exact aY (by rw[gq,if_neg (by simp[hz]),if_neg q1,if_neg q2]))
    clear hz;cases hq:(x.count==0)
    ·have hq1:¬x.count=0:=by simpa using hq
     by_cases h0:0<k
     ·obtain ⟨bl,off',A0,n0,c0,pr,e,hbl,f0,f1,HP⟩:=In.prev (hx.below hbb) hlt h0;injection e with e;injection e with e_1 e_2;subst e_1 e_2;have i0:(0:Int)<(k:Int):=by omega
      have i1:(0:Int)<=(k:Int)-1:=by omega
      have i2:(k:Int)-1<(n:Int):=by omega
      have i3:((k:Int)-1).toNat=k-1:=by omega
      have i5:(1:Int)<=(k:Int):=by omega
      have i6:(k:Int)<=(n:Int):=by omega
      have i7:(k:Int)<(n:Int):=by omega
      have i8:(0:Int)<=(k:Int):=by omega
      have i4:IntKind.i64.wrap ((k:Int)-1)=(k:Int)-1:=IntWalk.i64_in _ (by omega);go_wp2_with fail;go_region_held3 (λw'=>w'.cell? ⟨b,off+(k-1)*2,none⟩=some (.slice A0 n0 c0)/\w'.cell? ⟨b,off+k*2,none⟩=some (.slice A' n' c')) (first|exact ⟨f0,e0⟩|(have hq:=aj hb2;exact ⟨ah hq hbl f0,ah hq hbl e0⟩)) (first|(go_at_call 64;refine (lS _ A0 A' n0 n' c0 c' pr x.row (by exact f1) (by exact hin1)).mono ?_;rintro e w2 ⟨rfl,hb2⟩));have Fx:=aa hbb (aj hb2);clear hb2 i4 i3 i2 i1;by_cases hcmp:0<=aA pr x.row
      ·have he:Hid (14=aL bs):=hide (by rw[jR.out,HC.out,HP.out,if_neg hq1,if_pos ⟨h0,hcmp⟩]);have hd:decide (0<=aA pr x.row)=true:=by simp;omega
       go_wp2;all_goals (try (exfalso;go_light;simp_all;done));go_ret;exact ⟨ax he.out,Fx⟩
      ·have he:Hid (ai (dF bs) 0 bs=ai (dF bs) (k+1) (bs.drop (k+1))):=hide (by rw[HC.out,HP.out,if_neg hq1,if_neg (λh=>hcmp h.2)]);have hd:decide (0<=aA pr x.row)=false:=by simp;omega
       go_wp2;all_goals (try (exfalso;go_light;simp_all;done));go_roundw
       case rel=>exact ⟨k+1,by omega,by go_num,he.out,Fx⟩
       case measure=>simp[intOf];omega
     ·have h0':k=0:=by omega
      have he:Hid (ai (dF bs) 0 bs=ai (dF bs) (k+1) (bs.drop (k+1))):=hide (by rw[HC.out,if_neg hq1,if_neg (λh=>h0 h.1)]);subst h0';go_wp2;go_quiet (fail);go_wp2;go_roundw
      case rel=>exact ⟨0+1,by omega,by go_num,he.out,bY hbb⟩
      case measure=>simp[intOf];omega
    ·have he:Hid (8=aL bs):=hide (by rw[jR.out,HC.out,if_pos (by simpa using hq)]);go_wp2;go_ret;exact ⟨ax he.out,hbb⟩
   ·have hz':(aV x==0)=false:=by simp[hz]
    have he:Hid (aV x=aL bs):=hide (by rw[jR.out,HE.out,HX.out];exact (aK (by rw[gq,if_pos hz]) hz).symm);go_wp2;all_goals (try (exfalso;go_light;simp_all;done));go_ret;exact ⟨ax he.out,hbb⟩
  ·go_wp2;go_ret;exact ⟨ax (by rw[jR.out,HE.out,aI hx.len (by omega),ai]),hb⟩
def pos (b:List Ent):Bool:=b.all λx=>decide (0<x.count)
theorem F4 (x:Ent)(l:List Ent):pos (x :: l)=(decide (0<x.count)&&pos l):=rfl
theorem Eb (w:World)(A:Option Addr)(n c:Nat)(xs:List Ent)(hx:In w A n c xs):
  Calls Tryz.prog 134 #[.slice A n c] w λe w'=>e=.returned (.bool (pos xs))/\w=w':=by
 have h63:=hx.le;go_enter Tryz.func134,Tryz.ntmps134;go_wp2
 go_loop [3] (λi=> ∃k:Nat,k<=n/\i=.int .i64 k/\pos xs=pos (xs.drop k)) (λi=>n-(intOf i).toNat)
 case atStart=>exact ⟨0,Nat.zero_le _,rfl,rfl⟩
 case round=>
  obtain ⟨k,hk,rfl,heq⟩:=hrel;have HE:=hide heq;clear heq;by_cases hlt':k<n
  ·obtain ⟨b,off,x,rfl,hB,HX,A',n',c',e0,e1,e2,e3⟩:=hx.ent hlt';by_cases hz:x.count<=0
   ·go_wp2;all_goals (try (exfalso;go_light;simp_all;done));go_ret;exact ⟨ay (by rw[HE.out,HX.out,F4];simp;omega),rfl⟩
   ·go_wp2;all_goals (try (exfalso;go_light;simp_all;done))
    go_round
    case rel=>exact ⟨k+1,by omega,by go_num,by rw[HE.out,HX.out,F4];simp;omega⟩
    case measure=>simp[intOf];omega
  ·go_wp2;go_ret;exact ⟨ay (by rw[HE.out,aI hx.len (by omega)];rfl),rfl⟩
theorem TS (b:List Ent)(l:List Ent): ∀k,ai (dF b) k l=0-> ∀x∈l,x.count≠0:=by
 induction l with
 |nil=>intro k _ x hx;cases hx
 |cons y l ih=>
  intro k h x hx;by_cases hz:dF b k y=0
  ·rw[aY hz]at h;cases hx with
   |head=>
    intro h0;rw[gq]at hz;by_cases h1:aV y=0
    ·rw[if_neg (by simp[h1]),if_pos h0]at hz;omega
    ·rw[if_pos h1]at hz;exact h1 hz
   |tail _ hx=>exact ih _ h x hx
  ·rw[aK rfl hz]at h;exact absurd h hz
theorem FI {b:List Ent}(h:aL b=0):dZ b=pos b:=by
 have hz: ∀x∈b,x.count≠0:=by
  rw[aL]at h;by_cases hl:4096<b.length
  ·rw[if_pos hl]at h;omega
  ·rw[if_neg hl]at h;exact TS b b 0 h
 rw[dZ,h,pos];simp only[beq_self_eq_true,Bool.true_and];rw[Bool.eq_iff_iff,List.all_eq_true,List.all_eq_true];constructor
 ·intro h x hx;have:=h x hx;have:=hz x hx;simp only[decide_eq_true_eq]at*;omega
 ·intro h x hx;have:=h x hx;simp only[decide_eq_true_eq]at*;omega
theorem FJ (w:World)(A:Option Addr)(n c:Nat)(xs:List Ent)(hx:In w A n c xs):
  Calls Tryz.prog 94 #[.slice A n c] w λe w'=>e=.returned (.bool (dZ xs))/\Below w.heap.size w w':=by
 go_enter Tryz.func94,Tryz.ntmps94;go_wp2_with fail;refine (Jf _ _ _ _ xs hx).mono ?_;rintro e w1 ⟨rfl,hb1⟩;cases hz:(aL xs==0)
 ·go_wp2;all_goals (try (exfalso;go_light;simp_all;done));go_ret;exact ⟨ay (by rw[dZ,hz];rfl),hb1⟩
 ·have HT:=hide (FI (b:=xs) (by simpa using hz));go_wp2_with fail;all_goals (try (exfalso;go_light;simp_all;done));refine (Eb _ _ _ _ xs (hx.below hb1)).mono ?_;rintro e w2 ⟨rfl,rfl⟩;go_wp2;all_goals (try (exfalso;go_light;simp_all;done));go_ret;exact ⟨ay HT.out.symm,hb1⟩
end Go.Proofs.YtopjjlmfilgngaaGreatDoor
