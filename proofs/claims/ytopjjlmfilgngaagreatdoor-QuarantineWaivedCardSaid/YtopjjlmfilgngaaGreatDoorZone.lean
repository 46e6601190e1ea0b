/-
  zone.Validate and warehouseref4.Validate: both return zoneErr.
-/
import Derived.Test.YtopjjlmfilgngaaGreatDoorProg
import Derived.Test.YtopjjlmfilgngaaGreatDoorGac
import Derived.Test.YtopjjlmfilgngaaGreatDoorGaa
namespace Go.Proofs.YtopjjlmfilgngaaGreatDoor
set_option maxHeartbeats 2000000
set_option maxRecDepth 100000
open Go.RowKit
set_option linter.unusedSimpArgs false
set_option linter.unusedVariables false
theorem dS (m:Int)(w:World):Calls Tryz.prog 254 #[.int .i64 m] w λe w'=>e=.returned (.bool (j6 m))/\w=w':=by
 go_enter Tryz.func254,Tryz.ntmps254;go_wp2;all_goals (go_ret;refine ⟨ak ?_,rfl⟩;go_light;unfold j6;first|(simp_all;done)|(simp_all;omega))
theorem In.shift {w:World}{A:Option Addr}{n c k:Nat}{xs:List Shift}(h:In w A n c xs)(hk:k<n): ∃b off x,A=some ⟨b,off,none⟩/\b<w.heap.size/\Hid (xs.drop k=x :: xs.drop (k+1))/\
  w.cell? ⟨b,off+k*2,none⟩=some (.int .i64 x.at_)/\w.cell? ⟨b,off+k*2+1,none⟩=some (.int .i64 x.offset)/\dB x.at_/\dB x.offset:=by
 obtain ⟨b,off,x,e,hb,hx,cs,⟨rfl,hv⟩,hc⟩:=h.get hk;exact ⟨b,off,x,e,hb,hx,hc 0 (by simp[Shift.cells]),hc 1 (by simp[Shift.cells]),hv⟩
theorem j5 {l r:List Shift}{k:Nat}{x:Shift}(h:dD l k x=0):aO l k (x :: r)=aO l (k+1) r:=by simp[aO,h]
theorem fE {l r:List Shift}{k:Nat}{x:Shift}{e:Int}(h:dD l k x=e)(he:e≠0):aO l k (x :: r)=e:=by simp[aO,h,he]
theorem CY (w:World)(A:Option Addr)(n c:Nat)(z:Zone)(hx:In w A n c z.shifts)(ho:dB z.offset):
  Calls Tryz.prog 234 #[.agg #[.string z.name,.int .i64 z.offset,.slice A n c]] w λe w'=>e=.returned (.int .i64 (aV z))/\Below w.heap.size w w':=by
 obtain ⟨nm,rW,xs⟩:=z;simp only at hx ho⊢;have h63:=hx.le;have hlen:=hide hx.len;by_cases h1:64<n
 ·have he:Hid (2=aV ⟨nm,rW,xs⟩):=hide (by simp only[aV];rw[hlen.out,if_pos h1]);go_enter Tryz.func234,Tryz.ntmps234;go_wp2;all_goals (go_ret;exact ⟨ai he.out,ae⟩)
 cases h2:j6 rW
 ·have he:Hid (1=aV ⟨nm,rW,xs⟩):=hide (by simp only[aV];rw[hlen.out,if_neg h1,if_pos h2]);go_enter Tryz.func234,Tryz.ntmps234;go_wp2_with (go_at_call 254;refine (dS _ _).mono ?_;rintro e w' ⟨rfl,rfl⟩);all_goals (go_ret;exact ⟨ai he.out,ae⟩)
 have mH:Hid (aV ⟨nm,rW,xs⟩=aO xs 0 xs):=hide (by simp only[aV];rw[hlen.out,if_neg h1,if_neg (by simp[h2])]);go_enter Tryz.func234,Tryz.ntmps234;go_wp2_with (go_at_call 254;refine (dS _ _).mono ?_;rintro e w' ⟨rfl,rfl⟩);go_loopw [16] (λi wr=> ∃k:Nat,k<=n/\i=.int .i64 k/\aO xs 0 xs=aO xs k (xs.drop k)/\Below (w.alloc (.cells #[.string nm,.int .i64 rW,.slice A n c] 166)).heap.size (w.alloc (.cells #[.string nm,.int .i64 rW,.slice A n c] 166)) wr) (λi _=>n-(intOf i).toNat)
 case atStart=>exact ⟨0,Nat.zero_le _,rfl,rfl,Below.refl _ _⟩
 case round=>
  obtain ⟨k,hk,rfl,heq,hb0⟩:=hrel;have HE:=hide heq;clear heq;have hb:Below w.heap.size w wr:=aa ae hb0;have g0:wr.cell? ⟨w.heap.size,2,none⟩=some (.slice A n c):=ah hb0 (by simp) (by simp[go_sem]);have hsz:w.heap.size<wr.heap.size:=by have:=hb0.size;simp at this;omega
  have HB0:=hide hb0;clear hb0;by_cases hlt:k<n
  ·obtain ⟨b,off,x,rfl,hB,HX,f0,f1,f2,f3⟩:=(hx.below hb).shift hlt;have f2':=f2;have f3':=f3;unfold dB at f2 f3;by_cases c1:x.at_<1
   ·have he:Hid (1=aV ⟨nm,rW,xs⟩):=hide (by rw[mH.out,HE.out,HX.out];exact (fE (by simp[dD,c1]) (by omega)).symm);go_wp2_with (go_at_call 254;refine (dS _ _).mono ?_;rintro e w' ⟨rfl,rfl⟩);all_goals (try (exfalso;go_light;simp_all;done));all_goals (go_ret;exact ⟨ai he.out,aa hb ae⟩)
   by_cases c2:575999999<x.at_
   ·have he:Hid (1=aV ⟨nm,rW,xs⟩):=hide (by rw[mH.out,HE.out,HX.out];exact (fE (by simp[dD,c2]) (by omega)).symm);go_wp2_with (go_at_call 254;refine (dS _ _).mono ?_;rintro e w' ⟨rfl,rfl⟩);all_goals (try (exfalso;go_light;simp_all;done));all_goals (go_ret;exact ⟨ai he.out,aa hb ae⟩)
   cases c3:j6 x.offset
   ·have he:Hid (1=aV ⟨nm,rW,xs⟩):=hide (by rw[mH.out,HE.out,HX.out];exact (fE (by simp[dD,c3]) (by omega)).symm);go_wp2_with (go_at_call 254;refine (dS _ _).mono ?_;rintro e w' ⟨rfl,rfl⟩);all_goals (try (exfalso;go_light;simp_all;done));all_goals (go_ret;exact ⟨ai he.out,aa hb ae⟩)
   have k0:(0:Int)<=(k:Int):=by omega
   have k1:(k:Int)<(n:Int):=by omega
   have hbk:=aa HB0.out (ae (o:=.cells #[.int .i64 x.at_,.int .i64 x.offset] 187));have Gn:=hide hbk;have hbb:=aa hb (ae (o:=.cells #[.int .i64 x.at_,.int .i64 x.offset] 187));clear hbk;by_cases hk0:k=0
   ·have HR:Hid (aO xs 0 xs=aO xs (k+1) (xs.drop (k+1))):=hide (by rw[HE.out,HX.out];exact j5 (by simp[dD,c1,c2,c3,hk0]));have q0:decide (0<k)=false:=by simp;omega
    have Km:=hide hk0;clear hk0;go_wp2_with (go_at_call 254;refine (dS _ _).mono ?_;rintro e w' ⟨rfl,rfl⟩);all_goals (try (exfalso;go_light;simp_all;done));go_quiet (fail);go_wp2;go_roundw
    case rel=>exact ⟨k+1,by omega,by go_num,HR.out,by first|exact Gn.out|exact below_drewN Gn.out _⟩
    case measure=>simp[intOf];omega
   ·obtain ⟨b',off',y,e,hB',HY,y0,y1,y2,y3⟩:=(hx.below hbb).shift (show k-1<n by omega);injection e with e;injection e with e_1 e_2;subst e_1 e_2;have HP:=hide (bJ HY.out).1;have q0:decide (0<k)=true:=by simp;omega
    have i1:(0:Int)<=(k:Int)-1:=by omega
    have i2:(k:Int)-1<(n:Int):=by omega
    have i3:((k:Int)-1).toNat=k-1:=by omega
    have i5:(1:Int)<=(k:Int):=by omega
    have i6:(k:Int)<=(n:Int):=by omega
    have i4:IntKind.i64.wrap ((k:Int)-1)=(k:Int)-1:=IntWalk.i64_in _ (by omega);have P0:Hid (0<k):=hide (by omega);clear hk0;by_cases c4:x.at_<=y.at_
    ·have he:Hid (14=aV ⟨nm,rW,xs⟩):=hide (by rw[mH.out,HE.out,HX.out];exact (fE (by simp[dD,c1,c2,c3,P0.out,HP.out,c4]) (by omega)).symm);go_wp2_with (go_at_call 254;refine (dS _ _).mono ?_;rintro e w' ⟨rfl,rfl⟩);all_goals (try (exfalso;go_light;simp_all;done));go_quiet (fail);go_wp2;go_ret;exact ⟨ai he.out,by first|exact hbb|exact below_drewN hbb _⟩
    ·have HR:Hid (aO xs 0 xs=aO xs (k+1) (xs.drop (k+1))):=hide (by rw[HE.out,HX.out];exact j5 (by simp[dD,c1,c2,c3,HP.out,c4]));go_wp2_with (go_at_call 254;refine (dS _ _).mono ?_;rintro e w' ⟨rfl,rfl⟩);all_goals (try (exfalso;go_light;simp_all;done));go_quiet (fail);go_wp2;go_roundw
     case rel=>exact ⟨k+1,by omega,by go_num,HR.out,by first|exact Gn.out|exact below_drewN Gn.out _⟩
     case measure=>simp[intOf];omega
  ·go_wp2;go_ret;exact ⟨ai (by rw[mH.out,HE.out,aM hx.len (by omega),aO]),hb⟩
end Go.Proofs.YtopjjlmfilgngaaGreatDoor
