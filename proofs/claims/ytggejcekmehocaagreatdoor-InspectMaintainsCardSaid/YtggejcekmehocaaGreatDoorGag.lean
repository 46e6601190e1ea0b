/-
  zone.Validate and warehouseref4.Validate: both return zoneErr. bag.IsTable; warehouseref6.Validate, positive, IsTable.
-/
import Derived.Test.YtggejcekmehocaaGreatDoorProg
import Derived.Test.YtggejcekmehocaaGreatDoorGac
import Derived.Test.YtggejcekmehocaaGreatDoorGaa
import Derived.Test.YtggejcekmehocaaGreatDoorGad
namespace Go.Proofs.YtggejcekmehocaaGreatDoor
set_option maxHeartbeats 2000000
set_option maxRecDepth 100000
open Go.RowKit
set_option linter.unusedSimpArgs false
set_option linter.unusedVariables false
theorem iO (m:Int)(w:World):Calls Tryz.prog 236 #[.int .i64 m] w λe w'=>e=.returned (.bool (mD m))/\w=w':=by
 go_enter Tryz.func236,Tryz.ntmps236;go_wp2;all_goals (go_ret;refine ⟨au ?_,rfl⟩;go_light;unfold mD;first|(simp_all;done)|(simp_all;omega))
theorem iY (m:Int)(w:World):Calls Tryz.prog 184 #[.int .i64 m] w λe w'=>e=.returned (.bool (mD m))/\w=w':=by
 go_enter Tryz.func184,Tryz.ntmps184;go_wp2;all_goals (go_ret;refine ⟨au ?_,rfl⟩;go_light;unfold mD;first|(simp_all;done)|(simp_all;omega))
theorem In.shift {w:World}{A:Option Addr}{n c k:Nat}{xs:List Shift}(h:In w A n c xs)(hk:k<n): ∃b off x,A=some ⟨b,off,none⟩/\b<w.heap.size/\Hid (xs.drop k=x :: xs.drop (k+1))/\
  w.cell? ⟨b,off+k*2,none⟩=some (.int .i64 x.at_)/\w.cell? ⟨b,off+k*2+1,none⟩=some (.int .i64 x.offset)/\fP x.at_/\fP x.offset:=by
 obtain ⟨b,off,x,e,hb,hx,cs,⟨rfl,hv⟩,hc⟩:=h.get hk;exact ⟨b,off,x,e,hb,hx,hc 0 (by simp[Shift.cells]),hc 1 (by simp[Shift.cells]),hv⟩
theorem jI {l r:List Shift}{k:Nat}{x:Shift}(h:dK l k x=0):aU l k (x :: r)=aU l (k+1) r:=by simp[aU,h]
theorem dN {l r:List Shift}{k:Nat}{x:Shift}{e:Int}(h:dK l k x=e)(he:e≠0):aU l k (x :: r)=e:=by simp[aU,h,he]
theorem Np (w:World)(A:Option Addr)(n c:Nat)(z:Zone)(hx:In w A n c z.shifts)(ho:fP z.offset):
  Calls Tryz.prog 205 #[.agg #[.string z.name,.int .i64 z.offset,.slice A n c]] w λe w'=>e=.returned (.int .i64 (aM z))/\Below w.heap.size w w':=by
 obtain ⟨nm,oM,xs⟩:=z;simp only at hx ho⊢;have h63:=hx.le;have hlen:=hide hx.len;by_cases h1:64<n
 ·have he:Hid (2=aM ⟨nm,oM,xs⟩):=hide (by simp only[aM];rw[hlen.out,if_pos h1]);go_enter Tryz.func205,Tryz.ntmps205;go_wp2;all_goals (go_ret;exact ⟨aj he.out,ae⟩)
 cases h2:mD oM
 ·have he:Hid (1=aM ⟨nm,oM,xs⟩):=hide (by simp only[aM];rw[hlen.out,if_neg h1,if_pos h2]);go_enter Tryz.func205,Tryz.ntmps205;go_wp2_with (go_at_call 236;refine (iO _ _).mono ?_;rintro e w' ⟨rfl,rfl⟩);all_goals (go_ret;exact ⟨aj he.out,ae⟩)
 have jQ:Hid (aM ⟨nm,oM,xs⟩=aU xs 0 xs):=hide (by simp only[aM];rw[hlen.out,if_neg h1,if_neg (by simp[h2])]);go_enter Tryz.func205,Tryz.ntmps205;go_wp2_with (go_at_call 236;refine (iO _ _).mono ?_;rintro e w' ⟨rfl,rfl⟩);go_loopw [16] (λi wr=> ∃k:Nat,k<=n/\i=.int .i64 k/\aU xs 0 xs=aU xs k (xs.drop k)/\Below (w.alloc (.cells #[.string nm,.int .i64 oM,.slice A n c] 101)).heap.size (w.alloc (.cells #[.string nm,.int .i64 oM,.slice A n c] 101)) wr) (λi _=>n-(intOf i).toNat)
 case atStart=>exact ⟨0,Nat.zero_le _,rfl,rfl,Below.refl _ _⟩
 case round=>
  obtain ⟨k,hk,rfl,heq,hb0⟩:=hrel;have HE:=hide heq;clear heq;have hb:Below w.heap.size w wr:=aa ae hb0;have g0:wr.cell? ⟨w.heap.size,2,none⟩=some (.slice A n c):=bat hb0 (by simp) (by simp[go_sem]);have hsz:w.heap.size<wr.heap.size:=by have:=hb0.size;simp at this;omega
  have HB0:=hide hb0;clear hb0;by_cases hlt:k<n
  ·obtain ⟨b,off,x,rfl,hB,HX,f0,f1,f2,f3⟩:=(hx.below hb).shift hlt;have f2':=f2;have f3':=f3;unfold fP at f2 f3;by_cases c1:x.at_<1
   ·have he:Hid (1=aM ⟨nm,oM,xs⟩):=hide (by rw[jQ.out,HE.out,HX.out];exact (dN (by simp[dK,c1]) (by omega)).symm);go_wp2_with (go_at_call 236;refine (iO _ _).mono ?_;rintro e w' ⟨rfl,rfl⟩);all_goals (try (exfalso;go_light;simp_all;done));all_goals (go_ret;exact ⟨aj he.out,aa hb ae⟩)
   by_cases c2:575999999<x.at_
   ·have he:Hid (1=aM ⟨nm,oM,xs⟩):=hide (by rw[jQ.out,HE.out,HX.out];exact (dN (by simp[dK,c2]) (by omega)).symm);go_wp2_with (go_at_call 236;refine (iO _ _).mono ?_;rintro e w' ⟨rfl,rfl⟩);all_goals (try (exfalso;go_light;simp_all;done));all_goals (go_ret;exact ⟨aj he.out,aa hb ae⟩)
   cases c3:mD x.offset
   ·have he:Hid (1=aM ⟨nm,oM,xs⟩):=hide (by rw[jQ.out,HE.out,HX.out];exact (dN (by simp[dK,c3]) (by omega)).symm);go_wp2_with (go_at_call 236;refine (iO _ _).mono ?_;rintro e w' ⟨rfl,rfl⟩);all_goals (try (exfalso;go_light;simp_all;done));all_goals (go_ret;exact ⟨aj he.out,aa hb ae⟩)
   have k0:(0:Int)<=(k:Int):=by omega
   have k1:(k:Int)<(n:Int):=by omega
   have hbk:=aa HB0.out (ae (o:=.cells #[.int .i64 x.at_,.int .i64 x.offset] 208));have NK:=hide hbk;have hbb:=aa hb (ae (o:=.cells #[.int .i64 x.at_,.int .i64 x.offset] 208));clear hbk;by_cases hk0:k=0
   ·have HR:Hid (aU xs 0 xs=aU xs (k+1) (xs.drop (k+1))):=hide (by rw[HE.out,HX.out];exact jI (by simp[dK,c1,c2,c3,hk0]));have q0:decide (0<k)=false:=by simp;omega
    have NU:=hide hk0;clear hk0;go_wp2_with (go_at_call 236;refine (iO _ _).mono ?_;rintro e w' ⟨rfl,rfl⟩);all_goals (try (exfalso;go_light;simp_all;done));go_quiet (fail);go_wp2;go_roundw
    case rel=>exact ⟨k+1,by omega,by go_num,HR.out,by first|exact NK.out|exact below_drewN NK.out _⟩
    case measure=>simp[intOf];omega
   ·obtain ⟨b',off',y,e,hB',HY,y0,y1,y2,y3⟩:=(hx.below hbb).shift (show k-1<n by omega);injection e with e;injection e with e_1 e_2;subst e_1 e_2;have HP:=hide (bX HY.out).1;have q0:decide (0<k)=true:=by simp;omega
    have i1:(0:Int)<=(k:Int)-1:=by omega
    have i2:(k:Int)-1<(n:Int):=by omega
    have i3:((k:Int)-1).toNat=k-1:=by omega
    have i5:(1:Int)<=(k:Int):=by omega
    have i6:(k:Int)<=(n:Int):=by omega
    have i4:IntKind.i64.wrap ((k:Int)-1)=(k:Int)-1:=IntWalk.i64_in _ (by omega);have P0:Hid (0<k):=hide (by omega);clear hk0;by_cases c4:x.at_<=y.at_
    ·have he:Hid (14=aM ⟨nm,oM,xs⟩):=hide (by rw[jQ.out,HE.out,HX.out];exact (dN (by simp[dK,c1,c2,c3,P0.out,HP.out,c4]) (by omega)).symm);go_wp2_with (go_at_call 236;refine (iO _ _).mono ?_;rintro e w' ⟨rfl,rfl⟩);all_goals (try (exfalso;go_light;simp_all;done));go_quiet (fail);go_wp2;go_ret;exact ⟨aj he.out,by first|exact hbb|exact below_drewN hbb _⟩
    ·have HR:Hid (aU xs 0 xs=aU xs (k+1) (xs.drop (k+1))):=hide (by rw[HE.out,HX.out];exact jI (by simp[dK,c1,c2,c3,HP.out,c4]));go_wp2_with (go_at_call 236;refine (iO _ _).mono ?_;rintro e w' ⟨rfl,rfl⟩);all_goals (try (exfalso;go_light;simp_all;done));go_quiet (fail);go_wp2;go_roundw
     case rel=>exact ⟨k+1,by omega,by go_num,HR.out,by first|exact NK.out|exact below_drewN NK.out _⟩
     case measure=>simp[intOf];omega
  ·go_wp2;go_ret;exact ⟨aj (by rw[jQ.out,HE.out,aJ hx.len (by omega),aU]),hb⟩
theorem Nr (w:World)(A:Option Addr)(n c:Nat)(z:Zone)(hx:In w A n c z.shifts)(ho:fP z.offset):
  Calls Tryz.prog 155 #[.agg #[.string z.name,.int .i64 z.offset,.slice A n c]] w λe w'=>e=.returned (.int .i64 (aM z))/\Below w.heap.size w w':=by
 obtain ⟨nm,oM,xs⟩:=z;simp only at hx ho⊢;have h63:=hx.le;have hlen:=hide hx.len;by_cases h1:64<n
 ·have he:Hid (2=aM ⟨nm,oM,xs⟩):=hide (by simp only[aM];rw[hlen.out,if_pos h1]);go_enter Tryz.func155,Tryz.ntmps155;go_wp2;all_goals (go_ret;exact ⟨aj he.out,ae⟩)
 cases h2:mD oM
 ·have he:Hid (1=aM ⟨nm,oM,xs⟩):=hide (by simp only[aM];rw[hlen.out,if_neg h1,if_pos h2]);go_enter Tryz.func155,Tryz.ntmps155;go_wp2_with (go_at_call 184;refine (iY _ _).mono ?_;rintro e w' ⟨rfl,rfl⟩);all_goals (go_ret;exact ⟨aj he.out,ae⟩)
 have jQ:Hid (aM ⟨nm,oM,xs⟩=aU xs 0 xs):=hide (by simp only[aM];rw[hlen.out,if_neg h1,if_neg (by simp[h2])]);go_enter Tryz.func155,Tryz.ntmps155;go_wp2_with (go_at_call 184;refine (iY _ _).mono ?_;rintro e w' ⟨rfl,rfl⟩);go_loopw [3] (λi wr=> ∃k:Nat,k<=n/\i=.int .i64 k/\aU xs 0 xs=aU xs k (xs.drop k)/\Below (w.alloc (.cells #[.string nm,.int .i64 oM,.slice A n c] 101)).heap.size (w.alloc (.cells #[.string nm,.int .i64 oM,.slice A n c] 101)) wr) (λi _=>n-(intOf i).toNat)
 case atStart=>exact ⟨0,Nat.zero_le _,rfl,rfl,Below.refl _ _⟩
 case round=>
  obtain ⟨k,hk,rfl,heq,hb0⟩:=hrel;have HE:=hide heq;clear heq;have hb:Below w.heap.size w wr:=aa ae hb0;have g0:wr.cell? ⟨w.heap.size,2,none⟩=some (.slice A n c):=bat hb0 (by simp) (by simp[go_sem]);have hsz:w.heap.size<wr.heap.size:=by have:=hb0.size;simp at this;omega
  have HB0:=hide hb0;clear hb0;by_cases hlt:k<n
  ·obtain ⟨b,off,x,rfl,hB,HX,f0,f1,f2,f3⟩:=(hx.below hb).shift hlt;have f2':=f2;have f3':=f3;unfold fP at f2 f3;by_cases c1:x.at_<1
   ·have he:Hid (1=aM ⟨nm,oM,xs⟩):=hide (by rw[jQ.out,HE.out,HX.out];exact (dN (by simp[dK,c1]) (by omega)).symm);go_wp2_with (go_at_call 184;refine (iY _ _).mono ?_;rintro e w' ⟨rfl,rfl⟩);all_goals (try (exfalso;go_light;simp_all;done));all_goals (go_ret;exact ⟨aj he.out,aa hb ae⟩)
   by_cases c2:575999999<x.at_
   ·have he:Hid (1=aM ⟨nm,oM,xs⟩):=hide (by rw[jQ.out,HE.out,HX.out];exact (dN (by simp[dK,c2]) (by omega)).symm);go_wp2_with (go_at_call 184;refine (iY _ _).mono ?_;rintro e w' ⟨rfl,rfl⟩);all_goals (try (exfalso;go_light;simp_all;done));all_goals (go_ret;exact ⟨aj he.out,aa hb ae⟩)
   cases c3:mD x.offset
   ·have he:Hid (1=aM ⟨nm,oM,xs⟩):=hide (by rw[jQ.out,HE.out,HX.out];exact (dN (by simp[dK,c3]) (by omega)).symm);go_wp2_with (go_at_call 184;refine (iY _ _).mono ?_;rintro e w' ⟨rfl,rfl⟩);all_goals (try (exfalso;go_light;simp_all;done));all_goals (go_ret;exact ⟨aj he.out,aa hb ae⟩)
   have k0:(0:Int)<=(k:Int):=by omega
   have k1:(k:Int)<(n:Int):=by omega
   have hbk:=aa HB0.out (ae (o:=.cells #[.int .i64 x.at_,.int .i64 x.offset] 208));have NK:=hide hbk;have hbb:=aa hb (ae (o:=.cells #[.int .i64 x.at_,.int .i64 x.offset] 208));clear hbk;by_cases hk0:k=0
   ·have HR:Hid (aU xs 0 xs=aU xs (k+1) (xs.drop (k+1))):=hide (by rw[HE.out,HX.out];exact jI (by simp[dK,c1,c2,c3,hk0]));have q0:decide (0<k)=false:=by simp;omega
    have NU:=hide hk0;clear hk0;go_wp2_with (go_at_call 184;refine (iY _ _).mono ?_;rintro e w' ⟨rfl,rfl⟩);all_goals (try (exfalso;go_light;simp_all;done));go_quiet (fail);go_wp2;go_roundw
    case rel=>exact ⟨k+1,by omega,by go_num,HR.out,by first|exact NK.out|exact below_drewN NK.out _⟩
    case measure=>simp[intOf];omega
   ·obtain ⟨b',off',y,e,hB',HY,y0,y1,y2,y3⟩:=(hx.below hbb).shift (show k-1<n by omega);injection e with e;injection e with e_1 e_2;subst e_1 e_2;have HP:=hide (bX HY.out).1;have q0:decide (0<k)=true:=by simp;omega
    have i1:(0:Int)<=(k:Int)-1:=by omega
    have i2:(k:Int)-1<(n:Int):=by omega
    have i3:((k:Int)-1).toNat=k-1:=by omega
    have i5:(1:Int)<=(k:Int):=by omega
    have i6:(k:Int)<=(n:Int):=by omega
    have i4:IntKind.i64.wrap ((k:Int)-1)=(k:Int)-1:=IntWalk.i64_in _ (by omega);have P0:Hid (0<k):=hide (by omega);clear hk0;by_cases c4:x.at_<=y.at_
    ·have he:Hid (14=aM ⟨nm,oM,xs⟩):=hide (by rw[jQ.out,HE.out,HX.out];exact (dN (by simp[dK,c1,c2,c3,P0.out,HP.out,c4]) (by omega)).symm);go_wp2_with (go_at_call 184;refine (iY _ _).mono ?_;rintro e w' ⟨rfl,rfl⟩);all_goals (try (exfalso;go_light;simp_all;done));go_quiet (fail);go_wp2;go_ret;exact ⟨aj he.out,by first|exact hbb|exact below_drewN hbb _⟩
    ·have HR:Hid (aU xs 0 xs=aU xs (k+1) (xs.drop (k+1))):=hide (by rw[HE.out,HX.out];exact jI (by simp[dK,c1,c2,c3,HP.out,c4]));go_wp2_with (go_at_call 184;refine (iY _ _).mono ?_;rintro e w' ⟨rfl,rfl⟩);all_goals (try (exfalso;go_light;simp_all;done));go_quiet (fail);go_wp2;go_roundw
     case rel=>exact ⟨k+1,by omega,by go_num,HR.out,by first|exact NK.out|exact below_drewN NK.out _⟩
     case measure=>simp[intOf];omega
  ·go_wp2;go_ret;exact ⟨aj (by rw[jQ.out,HE.out,aJ hx.len (by omega),aU]),hb⟩
def lG:Nat->List Ent->Int
 | _,[]=> -1
 |k,x :: l=>if x.count<0 then k else lG (k+1) l
theorem E9 (l:List Ent): ∀k,(decide (0<=lG k l))=!(l.all λx=>decide (0<=x.count)):=by
 induction l with
 |nil=>intro k;rfl
 |cons x l ih=>
  intro k;rw[lG];by_cases h:x.count<0
  ·rw[if_pos h];have:¬0<=x.count:=by omega
   simp[this]
  ·rw[if_neg h,ih (k+1)];have:0<=x.count:=by omega
   simp[this]
theorem Po (A:Option Addr)(n c:Nat)(m:Int)(w:World):
  Calls Tryz.prog 169 #[.agg #[.slice A n c,.int .i64 m]] w λe w'=>e=.returned (.bool (decide (m<0)))/\Below w.heap.size w w':=by
 go_enter Tryz.func169,Tryz.ntmps169;go_wp2;go_ret;exact ⟨rfl,ae⟩
theorem AP (w:World)(A:Option Addr)(n c:Nat)(xs:List Ent)(hx:In w A n c xs):
  Calls Tryz.prog 203 #[.slice A n c,.func (.func 169) #[] #[]] w
   λe w'=>e=.returned (.int .i64 (lG 0 xs))/\Below w.heap.size w w':=by
 have h63:=hx.le;go_enter Tryz.func203,Tryz.ntmps203;go_wp2;go_loopw [8] (λi wr=> ∃k:Nat,k<=n/\i=.int .i64 k/\lG 0 xs=lG k (xs.drop k)/\Below w.heap.size w wr) (λi _=>n-(intOf i).toNat)
 case atStart=>exact ⟨0,Nat.zero_le _,rfl,rfl,Below.refl _ _⟩
 case round=>
  obtain ⟨k,hk,rfl,heq,hb⟩:=hrel;have HE:=hide heq;clear heq;by_cases hlt':k<n
  ·obtain ⟨b,off,x,rfl,hB,HX,A',n',c',e0,e1,e2,e3⟩:=(hx.below hb).ent hlt';go_wp2_with fail;refine (Po _ _ _ _ _).mono ?_;rintro e w1 ⟨rfl,hb1⟩;have hbb:=aa hb hb1;clear hb1 e0 e1 e2;by_cases hz:x.count<0
   ·have hd:decide (x.count<0)=true:=by simp[hz]
    go_wp2;all_goals (try (exfalso;go_light;simp_all;done));go_ret;exact ⟨aj (by rw[HE.out,HX.out,lG,if_pos hz]),hbb⟩
   ·have hd:decide (x.count<0)=false:=by simp;omega
    go_wp2;all_goals (try (exfalso;go_light;simp_all;done));go_roundw
    case rel=>exact ⟨k+1,by omega,by go_num,by rw[HE.out,HX.out,lG,if_neg (by omega)],hbb⟩
    case measure=>simp[intOf];omega
  ·go_wp2;go_ret;exact ⟨aj (by rw[HE.out,aJ hx.len (by omega),lG]),hb⟩
theorem wQ (w:World)(A:Option Addr)(n c:Nat)(xs:List Ent)(hx:In w A n c xs):
  Calls Tryz.prog 168 #[.slice A n c,.func (.func 169) #[] #[]] w
   λe w'=>e=.returned (.bool (decide (0<=lG 0 xs)))/\Below w.heap.size w w':=by
 go_enter Tryz.func168,Tryz.ntmps168;go_wp2_with fail;refine (AP _ _ _ _ xs hx).mono ?_;rintro e w1 ⟨rfl,hb1⟩;go_wp2;go_ret;exact ⟨rfl,hb1⟩
theorem EM (w:World)(A:Option Addr)(n c:Nat)(xs:List Ent)(hx:In w A n c xs):
  Calls Tryz.prog 137 #[.slice A n c] w λe w'=>e=.returned (.bool (dS xs))/\Below w.heap.size w w':=by
 go_enter Tryz.func137,Tryz.ntmps137;go_wp2_with fail;refine (yo _ _ _ _ xs hx).mono ?_;rintro e w1 ⟨rfl,hb1⟩;cases hz:(ay xs==0)
 ·go_wp2;all_goals (try (exfalso;go_light;simp_all;done));go_ret;exact ⟨au (by rw[dS,hz];rfl),hb1⟩
 ·go_wp2_with fail;all_goals (try (exfalso;go_light;simp_all;done));refine (wQ _ _ _ _ xs (hx.below hb1)).mono ?_;rintro e w2 ⟨rfl,hb2⟩;have hbb:=aa hb1 hb2;have HN:=hide (E9 xs 0);clear hb2;go_wp2;all_goals (try (exfalso;go_light;simp_all;done));go_ret;refine ⟨au ?_,hbb⟩;go_light;rw[dS,hz];have:=HN.out;cases h:(xs.all λx=>decide (0<=x.count)) <;> rw[h]at this <;> simp_all
theorem yt (w:World)(A:Option Addr)(n c:Nat)(bs:List Ent)(hx:In w A n c bs):
  Calls Tryz.prog 57 #[.slice A n c] w λe w'=>e=.returned (.int .i64 (ay bs))/\Below w.heap.size w w':=by
 have h63:=hx.le;have hlen:=hide hx.len;go_enter Tryz.func57,Tryz.ntmps57;by_cases hs:4096<n
 ·have he:Hid (2=ay bs):=hide (by rw[ay,hlen.out,if_pos hs]);go_wp2;go_ret;exact ⟨aj he.out,Below.refl _ _⟩
 have jQ:Hid (ay bs=ah (dm bs) 0 bs):=hide (by rw[ay,hlen.out,if_neg hs]);have hs1:n<=4096:=by omega
 clear hs;go_wp2;go_loopw [3] (λi wr=> ∃k:Nat,k<=n/\i=.int .i64 k/\ah (dm bs) 0 bs=ah (dm bs) k (bs.drop k)/\Below w.heap.size w wr) (λi _=>n-(intOf i).toNat)
 case atStart=>exact ⟨0,Nat.zero_le _,rfl,rfl,Below.refl _ _⟩
 case round=>
  obtain ⟨k,hk,rfl,heq,hb⟩:=hrel;have HE:=hide heq;clear heq;by_cases hlt:k<n
  ·obtain ⟨b,off,x,rfl,hB,HX,A',n',c',e0,e1,e2,e3⟩:=(hx.below hb).ent hlt;go_wp2_with fail;refine (BB _ A' n' c' x e2 e3).mono ?_;rintro e w1 ⟨rfl,hb1⟩;have hbb:=aa hb hb1;replace e0:=bat hb1 hB e0;replace e1:=bat hb1 hB e1;have hin1:=e2.below hb1;have hB1:b<w1.heap.size:=Nat.lt_of_lt_of_le hB hb1.size;obtain ⟨hm1,hm2⟩:=e3;clear hb1 e2;by_cases hz:aQ x=0
   ·rw[hz];have HC:Hid (ah (dm bs) 0 bs=if x.count=0 then 8 else if 0<k/\0<=ax (bs.getD (k-1) default).row x.row then 14 else ah (dm bs) (k+1) (bs.drop (k+1))):=hide (by
     rw[HE.out,HX.out];by_cases q1:x.count=0
     ·rw[if_pos q1];exact aH (by rw[fG,if_neg (by simp[hz]),if_pos q1]) (by omega)
     ·by_cases q2:0<k/\0<=ax (bs.getD (k-1) default).row x.row
      ·rw[if_neg q1,if_pos q2];exact aH (by rw[fG,if_neg (by simp[hz]),if_neg q1,if_pos q2]) (by omega)
      ·rw[if_neg q1,if_neg q2];exact aT (by rw[fG,if_neg (by simp[hz]),if_neg q1,if_neg q2]))
    clear hz;cases hq:(x.count==0)
    ·have hq1:¬x.count=0:=by simpa using hq
     by_cases h0:0<k
     ·obtain ⟨bl,off',A0,n0,c0,pr,e,hbl,f0,f1,HP⟩:=In.prev (hx.below hbb) hlt h0;injection e with e;injection e with e_1 e_2;subst e_1 e_2;have i0:(0:Int)<(k:Int):=by omega
      have i1:(0:Int)<=(k:Int)-1:=by omega
      have i2:(k:Int)-1<(n:Int):=by omega
      have i3:((k:Int)-1).toNat=k-1:=by omega
      have i5:(1:Int)<=(k:Int):=by omega
      have i6:(k:Int)<=(n:Int):=by omega
      have i7:(k:Int)<(n:Int):=by omega
      have i8:(0:Int)<=(k:Int):=by omega
      have i4:IntKind.i64.wrap ((k:Int)-1)=(k:Int)-1:=IntWalk.i64_in _ (by omega);go_wp2_with fail;go_region_held3 (λw'=>w'.cell? ⟨b,off+(k-1)*2,none⟩=some (.slice A0 n0 c0)/\w'.cell? ⟨b,off+k*2,none⟩=some (.slice A' n' c')) (first|exact ⟨f0,e0⟩|(have hq:=below_undrew hb2;exact ⟨bat hq hbl f0,bat hq hbl e0⟩)) (first|(go_at_call 79;refine (qV _ A0 A' n0 n' c0 c' pr x.row (by exact f1) (by exact hin1)).mono ?_;rintro e w2 ⟨rfl,hb2⟩));have ED:=aa hbb (below_undrew hb2);clear hb2 i4 i3 i2 i1;by_cases hcmp:0<=ax pr x.row
      ·have he:Hid (14=ay bs):=hide (by rw[jQ.out,HC.out,HP.out,if_neg hq1,if_pos ⟨h0,hcmp⟩]);have hd:decide (0<=ax pr x.row)=true:=by simp;omega
       go_wp2;all_goals (try (exfalso;go_light;simp_all;done));go_ret;exact ⟨aj he.out,ED⟩
      ·have he:Hid (ah (dm bs) 0 bs=ah (dm bs) (k+1) (bs.drop (k+1))):=hide (by rw[HC.out,HP.out,if_neg hq1,if_neg (λh=>hcmp h.2)]);have hd:decide (0<=ax pr x.row)=false:=by simp;omega
       go_wp2;all_goals (try (exfalso;go_light;simp_all;done));go_roundw
       case rel=>exact ⟨k+1,by omega,by go_num,he.out,ED⟩
       case measure=>simp[intOf];omega
     ·have h0':k=0:=by omega
      have he:Hid (ah (dm bs) 0 bs=ah (dm bs) (k+1) (bs.drop (k+1))):=hide (by rw[HC.out,if_neg hq1,if_neg (λh=>h0 h.1)]);subst h0';go_wp2;go_quiet (fail);go_wp2;go_roundw
      case rel=>exact ⟨0+1,by omega,by go_num,he.out,bD hbb⟩
      case measure=>simp[intOf];omega
    ·have he:Hid (8=ay bs):=hide (by rw[jQ.out,HC.out,if_pos (by simpa using hq)]);go_wp2;go_ret;exact ⟨aj he.out,hbb⟩
   ·have hz':(aQ x==0)=false:=by simp[hz]
    have he:Hid (aQ x=ay bs):=hide (by rw[jQ.out,HE.out,HX.out];exact (aH (by rw[fG,if_pos hz]) hz).symm);go_wp2;all_goals (try (exfalso;go_light;simp_all;done));go_ret;exact ⟨aj he.out,hbb⟩
  ·go_wp2;go_ret;exact ⟨aj (by rw[jQ.out,HE.out,aJ hx.len (by omega),ah]),hb⟩
def pos (b:List Ent):Bool:=b.all λx=>decide (0<x.count)
theorem Fh (x:Ent)(l:List Ent):pos (x :: l)=(decide (0<x.count)&&pos l):=rfl
theorem Dq (w:World)(A:Option Addr)(n c:Nat)(xs:List Ent)(hx:In w A n c xs):
  Calls Tryz.prog 159 #[.slice A n c] w λe w'=>e=.returned (.bool (pos xs))/\w=w':=by
 have h63:=hx.le;go_enter Tryz.func159,Tryz.ntmps159;go_wp2
 go_loop [3] (λi=> ∃k:Nat,k<=n/\i=.int .i64 k/\pos xs=pos (xs.drop k)) (λi=>n-(intOf i).toNat)
 case atStart=>exact ⟨0,Nat.zero_le _,rfl,rfl⟩
 case round=>
  obtain ⟨k,hk,rfl,heq⟩:=hrel;have HE:=hide heq;clear heq;by_cases hlt':k<n
  ·obtain ⟨b,off,x,rfl,hB,HX,A',n',c',e0,e1,e2,e3⟩:=hx.ent hlt';by_cases hz:x.count<=0
   ·go_wp2;all_goals (try (exfalso;go_light;simp_all;done));go_ret;exact ⟨au (by rw[HE.out,HX.out,Fh];simp;omega),rfl⟩
   ·go_wp2;all_goals (try (exfalso;go_light;simp_all;done))
    go_round
    case rel=>exact ⟨k+1,by omega,by go_num,by rw[HE.out,HX.out,Fh];simp;omega⟩
    case measure=>simp[intOf];omega
  ·go_wp2;go_ret;exact ⟨au (by rw[HE.out,aJ hx.len (by omega)];rfl),rfl⟩
theorem R6 (b:List Ent)(l:List Ent): ∀k,ah (dm b) k l=0-> ∀x∈l,x.count≠0:=by
 induction l with
 |nil=>intro k _ x hx;cases hx
 |cons y l ih=>
  intro k h x hx;by_cases hz:dm b k y=0
  ·rw[aT hz]at h;cases hx with
   |head=>
    intro h0;rw[fG]at hz;by_cases h1:aQ y=0
    ·rw[if_neg (by simp[h1]),if_pos h0]at hz;omega
    ·rw[if_pos h1]at hz;exact h1 hz
   |tail _ hx=>exact ih _ h x hx
  ·rw[aH rfl hz]at h;exact absurd h hz
theorem EN {b:List Ent}(h:ay b=0):dS b=pos b:=by
 have hz: ∀x∈b,x.count≠0:=by
  rw[ay]at h;by_cases hl:4096<b.length
  ·rw[if_pos hl]at h;omega
  ·rw[if_neg hl]at h;exact R6 b b 0 h
 rw[dS,h,pos];simp only[beq_self_eq_true,Bool.true_and];rw[Bool.eq_iff_iff,List.all_eq_true,List.all_eq_true];constructor
 ·intro h x hx;have:=h x hx;have:=hz x hx;simp only[decide_eq_true_eq]at*;omega
 ·intro h x hx;have:=h x hx;simp only[decide_eq_true_eq]at*;omega
theorem EO (w:World)(A:Option Addr)(n c:Nat)(xs:List Ent)(hx:In w A n c xs):
  Calls Tryz.prog 121 #[.slice A n c] w λe w'=>e=.returned (.bool (dS xs))/\Below w.heap.size w w':=by
 go_enter Tryz.func121,Tryz.ntmps121;go_wp2_with fail;refine (yt _ _ _ _ xs hx).mono ?_;rintro e w1 ⟨rfl,hb1⟩;cases hz:(ay xs==0)
 ·go_wp2;all_goals (try (exfalso;go_light;simp_all;done));go_ret;exact ⟨au (by rw[dS,hz];rfl),hb1⟩
 ·have HT:=hide (EN (b:=xs) (by simpa using hz));go_wp2_with fail;all_goals (try (exfalso;go_light;simp_all;done));refine (Dq _ _ _ _ xs (hx.below hb1)).mono ?_;rintro e w2 ⟨rfl,rfl⟩;go_wp2;all_goals (try (exfalso;go_light;simp_all;done));go_ret;exact ⟨au HT.out.symm,hb1⟩
end Go.Proofs.YtggejcekmehocaaGreatDoor
