/-
  zone.Validate and warehouseref4.Validate: both return zoneErr. bag.IsTable; warehouseref6.Validate, positive, IsTable.
-/
import Derived.Test.YtopjjlmfilgngaaGreatDoorProg
import Derived.Test.YtopjjlmfilgngaaGreatDoorGac
import Derived.Test.YtopjjlmfilgngaaGreatDoorGaa
import Derived.Test.YtopjjlmfilgngaaGreatDoorGad
namespace Go.Proofs.YtopjjlmfilgngaaGreatDoor
set_option maxHeartbeats 2000000
set_option maxRecDepth 100000
open Go.RowKit
set_option linter.unusedSimpArgs false
set_option linter.unusedVariables false
theorem eO (m:Int)(w:World):Calls Tryz.prog 254 #[.int .i64 m] w λe w'=>e=.returned (.bool (lD m))/\w=w':=by
 go_enter Tryz.func254,Tryz.ntmps254;go_wp2;all_goals (go_ret;refine ⟨ay ?_,rfl⟩;go_light;unfold lD;first|(simp_all;done)|(simp_all;omega))
theorem In.shift {w:World}{A:Option Addr}{n c k:Nat}{xs:List Shift}(h:In w A n c xs)(hk:k<n): ∃b off x,A=some ⟨b,off,none⟩/\b<w.heap.size/\Hid (xs.drop k=x :: xs.drop (k+1))/\
  w.cell? ⟨b,off+k*2,none⟩=some (.int .i64 x.at_)/\w.cell? ⟨b,off+k*2+1,none⟩=some (.int .i64 x.offset)/\dH x.at_/\dH x.offset:=by
 obtain ⟨b,off,x,e,hb,hx,cs,⟨rfl,hv⟩,hc⟩:=h.get hk;exact ⟨b,off,x,e,hb,hx,hc 0 (by simp[Shift.cells]),hc 1 (by simp[Shift.cells]),hv⟩
theorem lC {l r:List Shift}{k:Nat}{x:Shift}(h:dR l k x=0):aU l k (x :: r)=aU l (k+1) r:=by simp[aU,h]
theorem gL {l r:List Shift}{k:Nat}{x:Shift}{e:Int}(h:dR l k x=e)(he:e≠0):aU l k (x :: r)=e:=by simp[aU,h,he]
theorem GA (w:World)(A:Option Addr)(n c:Nat)(z:Zone)(hx:In w A n c z.shifts)(ho:dH z.offset):
  Calls Tryz.prog 234 #[.agg #[.string z.name,.int .i64 z.offset,.slice A n c]] w λe w'=>e=.returned (.int .i64 (bg z))/\Below w.heap.size w w':=by
 obtain ⟨nm,ve,xs⟩:=z;simp only at hx ho⊢;have h63:=hx.le;have hlen:=hide hx.len;by_cases h1:64<n
 ·have he:Hid (2=bg ⟨nm,ve,xs⟩):=hide (by simp only[bg];rw[hlen.out,if_pos h1]);go_enter Tryz.func234,Tryz.ntmps234;go_wp2;all_goals (go_ret;exact ⟨ai he.out,ae⟩)
 cases h2:lD ve
 ·have he:Hid (1=bg ⟨nm,ve,xs⟩):=hide (by simp only[bg];rw[hlen.out,if_neg h1,if_pos h2]);go_enter Tryz.func234,Tryz.ntmps234;go_wp2_with (go_at_call 254;refine (eO _ _).mono ?_;rintro e w' ⟨rfl,rfl⟩);all_goals (go_ret;exact ⟨ai he.out,ae⟩)
 have lF:Hid (bg ⟨nm,ve,xs⟩=aU xs 0 xs):=hide (by simp only[bg];rw[hlen.out,if_neg h1,if_neg (by simp[h2])]);go_enter Tryz.func234,Tryz.ntmps234;go_wp2_with (go_at_call 254;refine (eO _ _).mono ?_;rintro e w' ⟨rfl,rfl⟩);go_loopw [16] (λi wr=> ∃k:Nat,k<=n/\i=.int .i64 k/\aU xs 0 xs=aU xs k (xs.drop k)/\Below (w.alloc (.cells #[.string nm,.int .i64 ve,.slice A n c] 166)).heap.size (w.alloc (.cells #[.string nm,.int .i64 ve,.slice A n c] 166)) wr) (λi _=>n-(intOf i).toNat)
 case atStart=>exact ⟨0,Nat.zero_le _,rfl,rfl,Below.refl _ _⟩
 case round=>
  obtain ⟨k,hk,rfl,heq,hb0⟩:=hrel;have HE:=hide heq;clear heq;have hb:Below w.heap.size w wr:=aa ae hb0;have g0:wr.cell? ⟨w.heap.size,2,none⟩=some (.slice A n c):=aj hb0 (by simp) (by simp[go_sem]);have hsz:w.heap.size<wr.heap.size:=by have:=hb0.size;simp at this;omega
  have HB0:=hide hb0;clear hb0;by_cases hlt:k<n
  ·obtain ⟨b,off,x,rfl,hB,HX,f0,f1,f2,f3⟩:=(hx.below hb).shift hlt;have f2':=f2;have f3':=f3;unfold dH at f2 f3;by_cases c1:x.at_<1
   ·have he:Hid (1=bg ⟨nm,ve,xs⟩):=hide (by rw[lF.out,HE.out,HX.out];exact (gL (by simp[dR,c1]) (by omega)).symm);go_wp2_with (go_at_call 254;refine (eO _ _).mono ?_;rintro e w' ⟨rfl,rfl⟩);all_goals (try (exfalso;go_light;simp_all;done));all_goals (go_ret;exact ⟨ai he.out,aa hb ae⟩)
   by_cases c2:575999999<x.at_
   ·have he:Hid (1=bg ⟨nm,ve,xs⟩):=hide (by rw[lF.out,HE.out,HX.out];exact (gL (by simp[dR,c2]) (by omega)).symm);go_wp2_with (go_at_call 254;refine (eO _ _).mono ?_;rintro e w' ⟨rfl,rfl⟩);all_goals (try (exfalso;go_light;simp_all;done));all_goals (go_ret;exact ⟨ai he.out,aa hb ae⟩)
   cases c3:lD x.offset
   ·have he:Hid (1=bg ⟨nm,ve,xs⟩):=hide (by rw[lF.out,HE.out,HX.out];exact (gL (by simp[dR,c3]) (by omega)).symm);go_wp2_with (go_at_call 254;refine (eO _ _).mono ?_;rintro e w' ⟨rfl,rfl⟩);all_goals (try (exfalso;go_light;simp_all;done));all_goals (go_ret;exact ⟨ai he.out,aa hb ae⟩)
   have k0:(0:Int)<=(k:Int):=by omega
   have k1:(k:Int)<(n:Int):=by omega
   have hbk:=aa HB0.out (ae (o:=.cells #[.int .i64 x.at_,.int .i64 x.offset] 187));have Mc:=hide hbk;have hbb:=aa hb (ae (o:=.cells #[.int .i64 x.at_,.int .i64 x.offset] 187));clear hbk;by_cases hk0:k=0
   ·have HR:Hid (aU xs 0 xs=aU xs (k+1) (xs.drop (k+1))):=hide (by rw[HE.out,HX.out];exact lC (by simp[dR,c1,c2,c3,hk0]));have q0:decide (0<k)=false:=by simp;omega
    have Qn:=hide hk0;clear hk0;go_wp2_with (go_at_call 254;refine (eO _ _).mono ?_;rintro e w' ⟨rfl,rfl⟩);all_goals (try (exfalso;go_light;simp_all;done));go_quiet (fail);go_wp2;go_roundw
    case rel=>exact ⟨k+1,by omega,by go_num,HR.out,by first|exact Mc.out|exact below_drewN Mc.out _⟩
    case measure=>simp[intOf];omega
   ·obtain ⟨b',off',y,e,hB',HY,y0,y1,y2,y3⟩:=(hx.below hbb).shift (show k-1<n by omega);injection e with e;injection e with e_1 e_2;subst e_1 e_2;have HP:=hide (bE HY.out).1;have q0:decide (0<k)=true:=by simp;omega
    have i1:(0:Int)<=(k:Int)-1:=by omega
    have i2:(k:Int)-1<(n:Int):=by omega
    have i3:((k:Int)-1).toNat=k-1:=by omega
    have i5:(1:Int)<=(k:Int):=by omega
    have i6:(k:Int)<=(n:Int):=by omega
    have i4:IntKind.i64.wrap ((k:Int)-1)=(k:Int)-1:=IntWalk.i64_in _ (by omega);have P0:Hid (0<k):=hide (by omega);clear hk0;by_cases c4:x.at_<=y.at_
    ·have he:Hid (14=bg ⟨nm,ve,xs⟩):=hide (by rw[lF.out,HE.out,HX.out];exact (gL (by simp[dR,c1,c2,c3,P0.out,HP.out,c4]) (by omega)).symm);go_wp2_with (go_at_call 254;refine (eO _ _).mono ?_;rintro e w' ⟨rfl,rfl⟩);all_goals (try (exfalso;go_light;simp_all;done));go_quiet (fail);go_wp2;go_ret;exact ⟨ai he.out,by first|exact hbb|exact below_drewN hbb _⟩
    ·have HR:Hid (aU xs 0 xs=aU xs (k+1) (xs.drop (k+1))):=hide (by rw[HE.out,HX.out];exact lC (by simp[dR,c1,c2,c3,HP.out,c4]));go_wp2_with (go_at_call 254;refine (eO _ _).mono ?_;rintro e w' ⟨rfl,rfl⟩);all_goals (try (exfalso;go_light;simp_all;done));go_quiet (fail);go_wp2;go_roundw
     case rel=>exact ⟨k+1,by omega,by go_num,HR.out,by first|exact Mc.out|exact below_drewN Mc.out _⟩
     case measure=>simp[intOf];omega
  ·go_wp2;go_ret;exact ⟨ai (by rw[lF.out,HE.out,aD hx.len (by omega),aU]),hb⟩
def iE:Nat->List Ent->Int
 | _,[]=> -1
 |k,x :: l=>if x.count<0 then k else iE (k+1) l
theorem zx (l:List Ent): ∀k,(decide (0<=iE k l))=!(l.all λx=>decide (0<=x.count)):=by
 induction l with
 |nil=>intro k;rfl
 |cons x l ih=>
  intro k;rw[iE];by_cases h:x.count<0
  ·rw[if_pos h];have:¬0<=x.count:=by omega
   simp[this]
  ·rw[if_neg h,ih (k+1)];have:0<=x.count:=by omega
   simp[this]
theorem JD (A:Option Addr)(n c:Nat)(m:Int)(w:World):
  Calls Tryz.prog 62 #[.agg #[.slice A n c,.int .i64 m]] w λe w'=>e=.returned (.bool (decide (m<0)))/\Below w.heap.size w w':=by
 go_enter Tryz.func62,Tryz.ntmps62;go_wp2;go_ret;exact ⟨rfl,ae⟩
theorem uW (w:World)(A:Option Addr)(n c:Nat)(xs:List Ent)(hx:In w A n c xs):
  Calls Tryz.prog 87 #[.slice A n c,.func (.func 62) #[] #[]] w
   λe w'=>e=.returned (.int .i64 (iE 0 xs))/\Below w.heap.size w w':=by
 have h63:=hx.le;go_enter Tryz.func87,Tryz.ntmps87;go_wp2;go_loopw [8] (λi wr=> ∃k:Nat,k<=n/\i=.int .i64 k/\iE 0 xs=iE k (xs.drop k)/\Below w.heap.size w wr) (λi _=>n-(intOf i).toNat)
 case atStart=>exact ⟨0,Nat.zero_le _,rfl,rfl,Below.refl _ _⟩
 case round=>
  obtain ⟨k,hk,rfl,heq,hb⟩:=hrel;have HE:=hide heq;clear heq;by_cases hlt':k<n
  ·obtain ⟨b,off,x,rfl,hB,HX,A',n',c',e0,e1,e2,e3⟩:=(hx.below hb).ent hlt';go_wp2_with fail;refine (JD _ _ _ _ _).mono ?_;rintro e w1 ⟨rfl,hb1⟩;have hbb:=aa hb hb1;clear hb1 e0 e1 e2;by_cases hz:x.count<0
   ·have hd:decide (x.count<0)=true:=by simp[hz]
    go_wp2;all_goals (try (exfalso;go_light;simp_all;done));go_ret;exact ⟨ai (by rw[HE.out,HX.out,iE,if_pos hz]),hbb⟩
   ·have hd:decide (x.count<0)=false:=by simp;omega
    go_wp2;all_goals (try (exfalso;go_light;simp_all;done));go_roundw
    case rel=>exact ⟨k+1,by omega,by go_num,by rw[HE.out,HX.out,iE,if_neg (by omega)],hbb⟩
    case measure=>simp[intOf];omega
  ·go_wp2;go_ret;exact ⟨ai (by rw[HE.out,aD hx.len (by omega),iE]),hb⟩
theorem qx (w:World)(A:Option Addr)(n c:Nat)(xs:List Ent)(hx:In w A n c xs):
  Calls Tryz.prog 61 #[.slice A n c,.func (.func 62) #[] #[]] w
   λe w'=>e=.returned (.bool (decide (0<=iE 0 xs)))/\Below w.heap.size w w':=by
 go_enter Tryz.func61,Tryz.ntmps61;go_wp2_with fail;refine (uW _ _ _ _ xs hx).mono ?_;rintro e w1 ⟨rfl,hb1⟩;go_wp2;go_ret;exact ⟨rfl,hb1⟩
theorem qU (w:World)(A:Option Addr)(n c:Nat)(xs:List Ent)(hx:In w A n c xs):
  Calls Tryz.prog 36 #[.slice A n c] w λe w'=>e=.returned (.bool (cO xs))/\Below w.heap.size w w':=by
 go_enter Tryz.func36,Tryz.ntmps36;go_wp2_with fail;refine (wQ _ _ _ _ xs hx).mono ?_;rintro e w1 ⟨rfl,hb1⟩;cases hz:(au xs==0)
 ·go_wp2;all_goals (try (exfalso;go_light;simp_all;done));go_ret;exact ⟨ay (by rw[cO,hz];rfl),hb1⟩
 ·go_wp2_with fail;all_goals (try (exfalso;go_light;simp_all;done));refine (qx _ _ _ _ xs (hx.below hb1)).mono ?_;rintro e w2 ⟨rfl,hb2⟩;have hbb:=aa hb1 hb2;have HN:=hide (zx xs 0);clear hb2;go_wp2;all_goals (try (exfalso;go_light;simp_all;done));go_ret;refine ⟨ay ?_,hbb⟩;go_light;rw[cO,hz];have:=HN.out;cases h:(xs.all λx=>decide (0<=x.count)) <;> rw[h]at this <;> simp_all
theorem BX (w:World)(A:Option Addr)(n c:Nat)(bs:List Ent)(hx:In w A n c bs):
  Calls Tryz.prog 74 #[.slice A n c] w λe w'=>e=.returned (.int .i64 (au bs))/\Below w.heap.size w w':=by
 have h63:=hx.le;have hlen:=hide hx.len;go_enter Tryz.func74,Tryz.ntmps74;by_cases hs:4096<n
 ·have he:Hid (2=au bs):=hide (by rw[au,hlen.out,if_pos hs]);go_wp2;go_ret;exact ⟨ai he.out,Below.refl _ _⟩
 have lF:Hid (au bs=ag (bI bs) 0 bs):=hide (by rw[au,hlen.out,if_neg hs]);have hs1:n<=4096:=by omega
 clear hs;go_wp2;go_loopw [3] (λi wr=> ∃k:Nat,k<=n/\i=.int .i64 k/\ag (bI bs) 0 bs=ag (bI bs) k (bs.drop k)/\Below w.heap.size w wr) (λi _=>n-(intOf i).toNat)
 case atStart=>exact ⟨0,Nat.zero_le _,rfl,rfl,Below.refl _ _⟩
 case round=>
  obtain ⟨k,hk,rfl,heq,hb⟩:=hrel;have HE:=hide heq;clear heq;by_cases hlt:k<n
  ·obtain ⟨b,off,x,rfl,hB,HX,A',n',c',e0,e1,e2,e3⟩:=(hx.below hb).ent hlt;go_wp2_with fail;refine (vQ _ A' n' c' x e2 e3).mono ?_;rintro e w1 ⟨rfl,hb1⟩;have hbb:=aa hb hb1;replace e0:=aj hb1 hB e0;replace e1:=aj hb1 hB e1;have hin1:=e2.below hb1;have hB1:b<w1.heap.size:=Nat.lt_of_lt_of_le hB hb1.size;obtain ⟨hm1,hm2⟩:=e3;clear hb1 e2;by_cases hz:aA x=0
   ·rw[hz];have HC:Hid (ag (bI bs) 0 bs=if x.count=0 then 8 else if 0<k/\0<=ah (bs.getD (k-1) default).row x.row then 14 else ag (bI bs) (k+1) (bs.drop (k+1))):=hide (by
     rw[HE.out,HX.out];by_cases q1:x.count=0
     ·rw[if_pos q1];exact aK (by rw[dK,if_neg (by simp[hz]),if_pos q1]) (by omega)
     ·by_cases q2:0<k/\0<=ah (bs.getD (k-1) default).row x.row
      ·rw[if_neg q1,if_pos q2];exact aK (by rw[dK,if_neg (by simp[hz]),if_neg q1,if_pos q2]) (by omega)
      ·rw[if_neg q1,if_neg q2];exact aT (by rw[dK,if_neg (by simp[hz]),if_neg q1,if_neg q2]))
    clear hz;cases hq:(x.count==0)
    ·have hq1:¬x.count=0:=by simpa using hq
     by_cases h0:0<k
     ·obtain ⟨bl,off',A0,n0,c0,pr,e,hbl,f0,f1,HP⟩:=In.prev (hx.below hbb) hlt h0;injection e with e;injection e with e_1 e_2;subst e_1 e_2;have i0:(0:Int)<(k:Int):=by omega
      have i1:(0:Int)<=(k:Int)-1:=by omega
      have i2:(k:Int)-1<(n:Int):=by omega
      have i3:((k:Int)-1).toNat=k-1:=by omega
      have i5:(1:Int)<=(k:Int):=by omega
      have i6:(k:Int)<=(n:Int):=by omega
      have i7:(k:Int)<(n:Int):=by omega
      have i8:(0:Int)<=(k:Int):=by omega
      have i4:IntKind.i64.wrap ((k:Int)-1)=(k:Int)-1:=IntWalk.i64_in _ (by omega);go_wp2_with fail;go_region_held3 (λw'=>w'.cell? ⟨b,off+(k-1)*2,none⟩=some (.slice A0 n0 c0)/\w'.cell? ⟨b,off+k*2,none⟩=some (.slice A' n' c')) (first|exact ⟨f0,e0⟩|(have hq:=ak hb2;exact ⟨aj hq hbl f0,aj hq hbl e0⟩)) (first|(go_at_call 64;refine (iI _ A0 A' n0 n' c0 c' pr x.row (by exact f1) (by exact hin1)).mono ?_;rintro e w2 ⟨rfl,hb2⟩));have yZ:=aa hbb (ak hb2);clear hb2 i4 i3 i2 i1;by_cases hcmp:0<=ah pr x.row
      ·have he:Hid (14=au bs):=hide (by rw[lF.out,HC.out,HP.out,if_neg hq1,if_pos ⟨h0,hcmp⟩]);have hd:decide (0<=ah pr x.row)=true:=by simp;omega
       go_wp2;all_goals (try (exfalso;go_light;simp_all;done));go_ret;exact ⟨ai he.out,yZ⟩
      ·have he:Hid (ag (bI bs) 0 bs=ag (bI bs) (k+1) (bs.drop (k+1))):=hide (by rw[HC.out,HP.out,if_neg hq1,if_neg (λh=>hcmp h.2)]);have hd:decide (0<=ah pr x.row)=false:=by simp;omega
       go_wp2;all_goals (try (exfalso;go_light;simp_all;done));go_roundw
       case rel=>exact ⟨k+1,by omega,by go_num,he.out,yZ⟩
       case measure=>simp[intOf];omega
     ·have h0':k=0:=by omega
      have he:Hid (ag (bI bs) 0 bs=ag (bI bs) (k+1) (bs.drop (k+1))):=hide (by rw[HC.out,if_neg hq1,if_neg (λh=>h0 h.1)]);subst h0';go_wp2;go_quiet (fail);go_wp2;go_roundw
      case rel=>exact ⟨0+1,by omega,by go_num,he.out,eQ hbb⟩
      case measure=>simp[intOf];omega
    ·have he:Hid (8=au bs):=hide (by rw[lF.out,HC.out,if_pos (by simpa using hq)]);go_wp2;go_ret;exact ⟨ai he.out,hbb⟩
   ·have hz':(aA x==0)=false:=by simp[hz]
    have he:Hid (aA x=au bs):=hide (by rw[lF.out,HE.out,HX.out];exact (aK (by rw[dK,if_pos hz]) hz).symm);go_wp2;all_goals (try (exfalso;go_light;simp_all;done));go_ret;exact ⟨ai he.out,hbb⟩
  ·go_wp2;go_ret;exact ⟨ai (by rw[lF.out,HE.out,aD hx.len (by omega),ag]),hb⟩
def pos (b:List Ent):Bool:=b.all λx=>decide (0<x.count)
end Go.Proofs.YtopjjlmfilgngaaGreatDoor
