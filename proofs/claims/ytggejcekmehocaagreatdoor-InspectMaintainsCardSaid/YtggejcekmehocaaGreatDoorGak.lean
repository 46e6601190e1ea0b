/-
  warehouseref22.SameRow, SameEntries; warehouselaw22.sameParts; warehouseworld.Within. warehouseref6.Sum and Normalize. A map from ints to slices of entries that the call has made ('m[d] = append(m[d], x)'): the groups of a list. No program is in sight.
-/
import Derived.Maps.Own
import Derived.Maps.OwnOps
import Derived.Maps.Views
import Derived.Test.YtggejcekmehocaaGreatDoorGah
import Derived.Test.YtggejcekmehocaaGreatDoorGad
import Derived.Test.YtggejcekmehocaaGreatDoorGae
import Derived.Test.YtggejcekmehocaaGreatDoorGai
namespace Go.Proofs.YtggejcekmehocaaGreatDoor
set_option maxHeartbeats 2000000
set_option maxRecDepth 100000
open Go.RowKit
set_option linter.unusedSimpArgs false
set_option linter.unusedVariables false
theorem Ca {α:Type}{xs ys:List α}{k:Nat}{x:α}{l m:List α}(h:xs.take k=ys.take k)(hx:xs.drop k=x :: l)(hy:ys.drop k=x :: m):xs.take (k+1)=ys.take (k+1):=by
 rw[aV hx,aV hy,h]
theorem Fx {α:Type}{xs ys:List α}{n:Nat}(h:xs.take n=ys.take n)(hx:xs.length=n)(hy:ys.length=n):xs=ys:=by
 rw[List.take_of_length_le (by omega),List.take_of_length_le (by omega)]at h;exact h
theorem CR {α:Type}{xs ys:List α}{k:Nat}{x y:α}{l m:List α}(hx:xs.drop k=x :: l)(hy:ys.drop k=y :: m)(hne:x≠y):xs≠ys:=λe=>by
 rw[e,hy]at hx;injection hx with hx;exact hne hx.symm
theorem Si {a b c d:Int}{s t:ByteArray}:(⟨a,c,s⟩:Val)=⟨b,d,t⟩↔a=b/\c=d/\s=t:=by
 constructor
 ·intro h;injection h with h1 h2 h3;exact ⟨h1,h2,h3⟩
 ·rintro ⟨rfl,rfl,rfl⟩;rfl
theorem Pp (w:World)(a a' b b':Int)(s s':ByteArray):(binOp .neq 74 (.agg #[.int .i64 a,.int .i64 b,.string s]) (.agg #[.int .i64 a',.int .i64 b',.string s'])).run Tryz.prog w=.ok (.bool (!(a==a'&&b==b'&&s.toList==s'.toList))) w:=by
 have u1:=Tryz.underlying3;have u2:=Tryz.underlying9;have a1:=Tryz.isAgg3;have a2:=Tryz.isAgg9;have z1:=Tryz.sizeOf3;have z2:=Tryz.sizeOf9;have hS:Tryz.prog.underlying 74=some (.struct (Tryz.prog.fieldsOf 74)):=by kernel_rfl
 have hp:Tryz.prog.stoodInHeld 74=false:=by kernel_rfl
 rw[run_neq_struct,show (10000:Nat)=9999+1 from rfl,run_equalIn_agg w 9999 74 _ _ hS hp];simp only[Program.fieldsOf,Tryz.underlying74];go_simp;by_cases h1:a=a' <;> by_cases h2:b=b' <;> by_cases h3:s.toList=s'.toList <;> simp[h1,h2,h3]
theorem PG {a a' b b':Int}{s s':ByteArray}:(a==a'&&b==b'&&s.toList==s'.toList)=true↔(⟨a,b,s⟩:Val)=⟨a',b',s'⟩:=by
 rw[Si,Bool.and_eq_true,Bool.and_eq_true,beq_iff_eq,beq_iff_eq,beq_iff_eq,and_assoc,ByteArray.toList_eq,ByteArray.toList_eq];constructor
 ·rintro ⟨h1,h2,h3⟩;refine ⟨h1,h2,?_⟩;obtain ⟨⟨x⟩⟩:=s;obtain ⟨⟨y⟩⟩:=s';simp at h3;rw[h3]
 ·rintro ⟨rfl,rfl,rfl⟩;exact ⟨rfl,rfl,rfl⟩
theorem si (w:World)(A A2:Option Addr)(n n2 c c2:Nat)(xs ys:List Val)(hx:In w A n c xs)(hy:In w A2 n2 c2 ys):
  Calls Tryz.prog 44 #[.slice A n c,.slice A2 n2 c2] w λe w'=>(∃r,e=.returned (.bool r)/\(r=true↔xs=ys))/\Below w.heap.size w w':=by
 have h63:=hx.le;have hm:Tryz.prog.eqGuardType Tryz.prog.depth 74=false:=by kernel_rfl
 have hlx:=hide hx.len;have UR:=hide hy.len;by_cases hl:n=n2
 ·subst hl;go_enter Tryz.func44,Tryz.ntmps44;go_wp2;all_goals (try (exfalso;go_light;simp_all;done));go_loopw [5] (λi wr=> ∃k:Nat,k<=n/\i=.int .i64 k/\xs.take k=ys.take k/\Below w.heap.size w wr) (λi _=>n-(intOf i).toNat)
  case atStart=>exact ⟨0,Nat.zero_le _,rfl,rfl,Below.refl _ _⟩
  case round=>
   obtain ⟨k,hk,rfl,heq,hb⟩:=hrel;have HE:=hide heq;have HB:=hide hb;clear heq;by_cases hlt:k<n
   ·obtain ⟨b,off,x,rfl,hB,HX,e0,e1,e2,e3⟩:=(hx.below hb).val hlt;obtain ⟨b',off',y,rfl,hB',HY,f0,f1,f2,f3⟩:=(hy.below hb).val hlt;have k0:(0:Int)<=(k:Int):=by omega
    have k1:(k:Int)<(n:Int):=by omega
    obtain ⟨xk,xn,xs'⟩:=x;obtain ⟨yk,yn,ys'⟩:=y;simp only at e0 e1 e2 f0 f1 f2;have HQ:=hide (PG (a:=xk) (a':=yk) (b:=xn) (b':=yn) (s:=xs') (s':=ys'));have kq:=λW=>Pp W xk yk xn yn xs' ys';cases hr:(xk==yk&&xn==yn&&xs'.toList==ys'.toList)
    ·have HN:Hid (xs≠ys):=hide (CR HX.out HY.out λe=>by rw[HQ.out.2 e]at hr;cases hr);rw[hr]at kq;clear hr HQ;go_wp2;go_quiet (fail);go_wp2;go_ret;exact ⟨⟨false,rfl,(λh=>by cases h),λh=>absurd h HN.out⟩,bD HB.out⟩
    ·have hv:=HQ.out.1 hr;rw[hr]at kq;have HN:Hid (xs.take (k+1)=ys.take (k+1)):=hide (Ca HE.out HX.out (by rw[hv];exact HY.out));clear hr HQ hv;go_wp2;go_quiet (fail);go_wp2;go_roundw
     case rel=>exact ⟨k+1,by omega,by go_num,HN.out,bD HB.out⟩
     case measure=>simp[intOf];omega
   ·have HN:=hide (Fx (n:=k) HE.out (by rw[hlx.out];omega) (by rw[UR.out];omega));go_wp2;go_ret;exact ⟨⟨true,rfl,λ_=>HN.out,λ_=>rfl⟩,HB.out⟩
 ·have HN:Hid (xs≠ys):=hide λe=>hl (by rw[<-hlx.out,<-UR.out,e]);have q:((n:Int) != (n2:Int))=true:=by simp;omega
  clear hl;go_enter Tryz.func44,Tryz.ntmps44;go_wp2;all_goals (try (exfalso;go_light;simp_all;done));go_ret;exact ⟨⟨false,rfl,(λh=>by cases h),λh=>absurd h HN.out⟩,Below.refl _ _⟩
theorem Gq {r r':List Val}{a b:Int}:(⟨r,a⟩:Ent)=⟨r',b⟩↔r=r'/\a=b:=by
 constructor
 ·intro h;injection h with h1 h2;exact ⟨h1,h2⟩
 ·rintro ⟨rfl,rfl⟩;rfl
theorem sameEnts_any (w:World)(A A2:Option Addr)(n n2 c c2:Nat)(xs ys:List Ent)(hx:In w A n c xs)(hy:In w A2 n2 c2 ys):
  Calls Tryz.prog 19 #[.slice A n c,.slice A2 n2 c2] w λe w'=>(∃r,e=.returned (.bool r)/\(r=true↔xs=ys))/\Below w.heap.size w w':=by
 have h63:=hx.le;have hlx:=hide hx.len;have UR:=hide hy.len;by_cases hl:n=n2
 ·subst hl;go_enter Tryz.func19,Tryz.ntmps19;go_wp2;all_goals (try (exfalso;go_light;simp_all;done));go_loopw [5] (λi wr=> ∃k:Nat,k<=n/\i=.int .i64 k/\xs.take k=ys.take k/\Below w.heap.size w wr) (λi _=>n-(intOf i).toNat)
  case atStart=>exact ⟨0,Nat.zero_le _,rfl,rfl,Below.refl _ _⟩
  case round=>
   obtain ⟨k,hk,rfl,heq,hb⟩:=hrel;have HE:=hide heq;have HB:=hide hb;clear heq;by_cases hlt:k<n
   ·obtain ⟨b,off,x,rfl,hB,HX,A3,n3,c3,e0,e1,e2,e3⟩:=(hx.below hb).ent hlt;obtain ⟨b',off',y,rfl,hB',HY,A4,n4,c4,f0,f1,f2,f3⟩:=(hy.below hb).ent hlt;have k0:(0:Int)<=(k:Int):=by omega
    have k1:(k:Int)<(n:Int):=by omega
    have E0:=hide e0;have E1:=hide e1;have F0:=hide f0;have F1:=hide f1;have FM:=hide hB;have Yj:=hide hB';obtain ⟨xr,xc⟩:=x;obtain ⟨yr,yc⟩:=y;simp only at e1 f1 e2 f2;by_cases hcc:xc=yc
    ·have q:(xc != yc)=false:=by simp[hcc]
     have Sq:=hide hcc;clear hcc;go_wp2;go_region_held3 (λV=>V.cell? ⟨b,off+k*2,none⟩=some (.slice A3 n3 c3)/\V.cell? ⟨b,off+k*2+1,none⟩=some (.int .i64 xc)/\V.cell? ⟨b',off'+k*2,none⟩=some (.slice A4 n4 c4)/\V.cell? ⟨b',off'+k*2+1,none⟩=some (.int .i64 yc))
      (first|exact ⟨e0,e1,f0,f1⟩|exact ⟨bat HB2.out FM.out E0.out,bat HB2.out FM.out E1.out,bat HB2.out Yj.out F0.out,bat HB2.out Yj.out F1.out⟩)
      (first|(go_at_call 44;refine (si _ A3 A4 n3 n4 c3 c4 xr yr (by exact e2.below (Below.refl _ _).drew) (by exact f2.below (Below.refl _ _).drew)).mono ?_;rintro e w2 ⟨⟨r,rfl,hr⟩,hb2⟩;have HR:=hide hr;have HB2:=hide (below_undrew hb2);clear hb2 hr))
     have PL:=hide (aa HB.out HB2.out);cases r
     ·have HN:Hid (xs≠ys):=hide (CR HX.out HY.out λe=>by have:=HR.out.2 (Gq.1 e).1;cases this);go_wp2;all_goals (try (exfalso;go_light;simp_all;done));go_ret;exact ⟨⟨false,rfl,(λh=>by cases h),λh=>absurd h HN.out⟩,PL.out⟩
     ·have HN:Hid (xs.take (k+1)=ys.take (k+1)):=hide (Ca HE.out HX.out (by rw[Gq.2 ⟨HR.out.1 rfl,Sq.out⟩];exact HY.out));go_wp2;all_goals (try (exfalso;go_light;simp_all;done));go_roundw
      case rel=>exact ⟨k+1,by omega,by go_num,HN.out,PL.out⟩
      case measure=>simp[intOf];omega
    ·have HN:Hid (xs≠ys):=hide (CR HX.out HY.out λe=>hcc (Gq.1 e).2);have q:(xc != yc)=true:=by simpa using hcc
     clear hcc;go_wp2;go_quiet (fail);go_wp2;all_goals (try (exfalso;go_light;simp_all;done));go_ret;exact ⟨⟨false,rfl,(λh=>by cases h),λh=>absurd h HN.out⟩,bD HB.out⟩
   ·have HN:=hide (Fx (n:=k) HE.out (by rw[hlx.out];omega) (by rw[UR.out];omega));go_wp2;go_ret;exact ⟨⟨true,rfl,λ_=>HN.out,λ_=>rfl⟩,HB.out⟩
 ·have HN:Hid (xs≠ys):=hide λe=>hl (by rw[<-hlx.out,<-UR.out,e]);have q:((n:Int) != (n2:Int))=true:=by simp;omega
  clear hl;go_enter Tryz.func19,Tryz.ntmps19;go_wp2;all_goals (try (exfalso;go_light;simp_all;done));go_ret;exact ⟨⟨false,rfl,(λh=>by cases h),λh=>absurd h HN.out⟩,Below.refl _ _⟩
theorem jW {P:List Val->Prop}: ∀n xs ys,xs.length+ys.length<=n->(∀x∈xs,P x.row)->(∀x∈ys,P x.row)-> ∀x∈aI xs ys,P x.row
 | 0,xs,ys,h,_,_=>by
  rw[List.eq_nil_of_length_eq_zero (show xs.length=0 by omega),List.eq_nil_of_length_eq_zero (show ys.length=0 by omega)];intro x hx;cases hx
 |n+1,[],[],_,_,_=>by intro x hx;cases hx
 |n+1,[],y :: ys,h,hx,hy=>by
  rw[kE];have ih:=jW n [] ys (by simp at h⊢;omega) hx (λz hz=>hy z (List.mem_cons_of_mem _ hz));intro z hz;cases hz with
  |head=>exact hy y (List.mem_cons_self ..)
  |tail _ hz=>exact ih z hz
 |n+1,x :: xs,[],h,hx,hy=>by
  rw[lW];have ih:=jW n xs [] (by simp at h⊢;omega) (λz hz=>hx z (List.mem_cons_of_mem _ hz)) hy;intro z hz;cases hz with
  |head=>exact hx x (List.mem_cons_self ..)
  |tail _ hz=>exact ih z hz
 |n+1,x :: xs,y :: ys,h,hx,hy=>by
  have hx1:=hx x (List.mem_cons_self ..);have hy1:=hy y (List.mem_cons_self ..);have i1:=jW n xs (y :: ys) (by simp at h⊢;omega) (λz hz=>hx z (List.mem_cons_of_mem _ hz)) hy;have i2:=jW n (x :: xs) ys (by simp at h⊢;omega) hx (λz hz=>hy z (List.mem_cons_of_mem _ hz));have i3:=jW n xs ys (by simp at h⊢;omega) (λz hz=>hx z (List.mem_cons_of_mem _ hz)) (λz hz=>hy z (List.mem_cons_of_mem _ hz));rw[lV]
  split
  ·intro z hz;cases hz with
   |head=>exact hx1
   |tail _ hz=>exact i1 z hz
  ·split
   ·intro z hz;cases hz with
    |head=>exact hy1
    |tail _ hz=>exact i2 z hz
   ·intro z hz;cases hz with
    |head=>exact hx1
    |tail _ hz=>exact i3 z hz
theorem uE {P:List Val->Prop}: ∀n (l:List Ent),l.length<=n->(∀x∈l,P x.row)-> ∀x∈cB l,P x.row
 | 0,l,h,_=>by
  rw[List.eq_nil_of_length_eq_zero (show l.length=0 by omega)];intro x hx;cases hx
 |n+1,l,h,hb=>by
  by_cases hl:l.length<2
  ·rw[oo hl];exact hb
  ·rw[qN hl];have h1:(l.take (l.length / 2)).length=l.length / 2:=by rw[List.length_take];omega
   have h2:(l.drop (l.length / 2)).length=l.length-l.length / 2:=by rw[List.length_drop]
   have b1:=uE n (l.take (l.length / 2)) (by omega) (λx hx=>hb x (List.mem_of_mem_take hx));have b2:=uE n (l.drop (l.length / 2)) (by omega) (λx hx=>hb x (List.mem_of_mem_drop hx));exact jW _ _ _ (Nat.le_refl _) b1 b2
theorem aB.base {w w0 w1:World}{v:Value}{zs:List Ent}(h:aB w0 w1 v zs)(hb:w.heap.size<=w0.heap.size):aB w w1 v zs:=by
 obtain ⟨cs,h1,h2⟩:=h;refine ⟨cs,⟨h1.1,?_⟩,h2.mono λk hk=>⟨Nat.le_trans hb hk.1,hk.2⟩⟩;rcases h1.2 with h|⟨g,cap,cur,e,hg,r⟩
 ·exact .inl h
 ·exact .inr ⟨g,cap,cur,e,Nat.le_trans hb hg,r⟩
def F9 (xs:List Ent)(m:Int)(zs:List Ent):Prop:=(m=2/\bP 0 (cB xs)=true/\zs=[])\/(m=0/\bP 0 (cB xs)=false/\zs=bN (cB xs))
theorem Pt (w:World)(A:Option Addr)(n c:Nat)(xs:List Ent)(hx:In w A n c xs)(hn:n<=1048576)(hb:tQ 65536 xs)(hrow: ∀x∈xs,x.row.length<=12):
  Calls Tryz.prog 77 #[.slice A n c] w
   λe w'=>(∃v m zs,e=.returned (.tuple #[v,.int .i64 m])/\aB w w' v zs/\F9 xs m zs)/\Below w.heap.size w w':=by
 have h63:=hx.le;have hlen:=hide hx.len;have hs:=zW 65536 (by omega) (by omega) n w A n c xs (Nat.le_refl _) hn hx hb;have hl:=pX _ xs (Nat.le_refl _);rw[hx.len]at hl;have hr:=hide (uE (P:=λl=>l.length<=4096) _ xs (Nat.le_refl _) (λx hx=>Nat.le_trans (hrow x hx) (by omega)));clear hrow hb;go_enter Tryz.func77,Tryz.ntmps77;go_wp2_with fail;refine hs.mono ?_;rintro e w1 ⟨⟨B,d,rfl,hin⟩,hb1⟩;go_wp2_with fail;refine (zT w1 B _ d (cB xs) hin (by omega) hr.out).mono ?_;rintro e w2 ⟨⟨v,m,zs,rfl,hf,hm⟩,hb2⟩;have hbb:=aa hb1 hb2;have HF:=hide (hf.base hb1.size);have HM:Hid (F9 xs m zs):=hide hm;clear hf hm hin;go_wp2;go_ret2;exact ⟨⟨_,_,zs,rfl,HF.out,HM.out⟩,hbb⟩
def wE (xs:List Ent)(m:Int)(zs:List Ent):Prop:=
 (ah (λ_ x=>aQ x) 0 xs≠0/\m=ah (λ_ x=>aQ x) 0 xs/\zs=[])\/(ah (λ_ x=>aQ x) 0 xs=0/\F9 xs m zs)
theorem Ee: ∀{xs:List Ent} {k:Nat},ah (λ_ x=>aQ x) k xs=0->tQ 65536 xs/\ ∀x∈xs,x.row.length<=12
 | [],_,_=>⟨(λx h=>by cases h),(λx h=>by cases h)⟩
 |x :: xs,k,h=>by
  have h0:aQ x=0:=by
   rw[ah]at h;by_cases he:aQ x=0
   ·exact he
   ·rw[if_pos he]at h;exact h
  rw[aT h0]at h;obtain ⟨i1,i2⟩:=Ee h;rw[nE]at h0;have h1:¬(12<x.row.length\/x.count < -65536\/65536<x.count):=λe=>by rw[if_pos e]at h0;omega
  refine ⟨λz hz=>?_,λz hz=>?_⟩
  ·cases hz with
   |head=>omega
   |tail _ hz=>exact i1 z hz
  ·cases hz with
   |head=>omega
   |tail _ hz=>exact i2 z hz
theorem uh (w:World)(A:Option Addr)(n c:Nat)(xs:List Ent)(hx:In w A n c xs)(hn:n<=1048576):
  Calls Tryz.prog 47 #[.slice A n c] w
   λe w'=>(∃v m zs,e=.returned (.tuple #[v,.int .i64 m])/\aB w w' v zs/\wE xs m zs)/\Below w.heap.size w w':=by
 have h63:=hx.le;have hlen:=hide hx.len;go_enter Tryz.func47,Tryz.ntmps47;go_wp2;go_loopw [4] (λi wr=> ∃k:Nat,k<=n/\i=.int .i64 k/\ah (λ_ x=>aQ x) 0 xs=ah (λ_ x=>aQ x) k (xs.drop k)/\Below w.heap.size w wr) (λi _=>n-(intOf i).toNat)
 case atStart=>exact ⟨0,Nat.zero_le _,rfl,rfl,Below.refl _ _⟩
 case round=>
  obtain ⟨k,hk,rfl,heq,hb⟩:=hrel;have HE:=hide heq;clear heq;by_cases hlt:k<n
  ·obtain ⟨b,off,x,rfl,hB,HX,A2,n2,c2,f0,f1,f2,f3⟩:=(hx.below hb).ent hlt;have f3':=hide f3;go_wp2_with fail;refine (BB wr A2 n2 c2 x f2 f3'.out).mono ?_;rintro e w1 ⟨rfl,hb1⟩;have hbb:=aa hb hb1;clear hb1 f0 f1 f2;by_cases hv:aQ x=0
   ·have HR:Hid (ah (λ_ x=>aQ x) 0 xs=ah (λ_ x=>aQ x) (k+1) (xs.drop (k+1))):=hide (by rw[HE.out,HX.out];exact aT hv);rw[hv];go_wp2;go_roundw
    case rel=>exact ⟨k+1,by omega,by go_num,HR.out,hbb⟩
    case measure=>simp[intOf];omega
   ·have HR:Hid (ah (λ_ x=>aQ x) 0 xs=aQ x):=hide (by rw[HE.out,HX.out];exact aH rfl hv);have hv':(aQ x==0)=false:=by simpa using hv
    generalize aQ x=m at*;go_wp2;all_goals (try (exfalso;go_light;simp_all;done));go_ret2;exact ⟨⟨_,_,[],rfl,⟨[],World.ownsRow_nil _ _ _ _,rfl⟩,.inl ⟨by rw[HR.out];exact hv,HR.out.symm,rfl⟩⟩,hbb⟩
  ·have HR:Hid (ah (λ_ x=>aQ x) 0 xs=0):=hide (by rw[HE.out,aJ hx.len (by omega),ah]);have hfit:=hide (Ee HR.out);have hin:=hide (hx.below hb);go_wp2_with fail;refine (Pt wr A n c xs hin.out hn hfit.out.1 hfit.out.2).mono ?_;rintro e w2 ⟨⟨v,m,zs,rfl,hf,hm⟩,hb2⟩;have hbb:=aa hb hb2;have HF:=hide (hf.base hb.size);have HM:=hide hm;clear hf hm;go_wp2;go_ret2;exact ⟨⟨_,_,zs,rfl,HF.out,.inr ⟨HR.out,HM.out⟩⟩,hbb⟩
open Go.RowKit Go.Maps
def RV (v:Value):Option (DataW Value×List MemPlace):=some (.held v,[])
def q8 (P:Program)(K:TypeId)(w0 w:World)(b:Nat)(g:Ent->Int)(zs:List Ent):Prop:=
 ∃(D:DataW Value) (f:Int->Value),w.ownsMap P K RV b zs.length D/\w0.heap.size<=b/\Maps.IsMap D/\
  (∀d,D.atKey (.int .i64 d) (.held (.slice none 0 0))=.held (f d))/\
  (∀d,Maps.has D (.int .i64 d)=true↔d∈zs.map g)/\
  (∀d,aB w0 w (f d) (zs.filter λx=>g x==d))/\
  (∀d d',d≠d'->(f d).ownBlock=none\/(f d).ownBlock≠(f d').ownBlock)
def SX (P:Program)(t K:TypeId)(w0 w:World)(b:Nat)(g:Ent->Int)(zs:List Ent)(d:Int)(v:Value):Prop:=
 ∀(w1:World) (v':Value) (x:Ent),w.grownBy w1 v.ownBlock->g x=d->aB w0 w1 v' ((zs.filter λy=>g y==d)++[x])->(v'.ownBlock=v.ownBlock\/ ∃k,v'.ownBlock=some k/\w.heap.size<=k)->
  ∃w2,(Instr.mapUpdate t (.map (some b)) (.int .i64 d) v').run P w1=.ok () w2/\q8 P K w0 w2 b g (zs++[x])/\w1.grownBy w2 (some b)
theorem aB.nil (w w':World):aB w w' (.slice none 0 0) []:=⟨[],World.ownsRow_nil _ _ _ _,rfl⟩
theorem aB.kept {w0 w w1:World}{v:Value}{zs:List Ent}{row:Option Nat}(h:aB w0 w v zs)(hg:w.grownBy w1 row)(h1:v.ownBlock=none\/v.ownBlock≠row)(h2: ∀k,row=some k->¬eP w 74 k):aB w0 w1 v zs:=by
 obtain ⟨cs,a,b⟩:=h;have hs: ∀k,eP w 74 k->w1.heap[k]?=w.heap[k]?:=λk hk=>hg.block k hk.lt λe=>h2 k e.symm hk;have hS:Same (New w0 w 74) w w1:=λk hk=>hs k hk.2;exact ⟨cs,a.kept hg h1,(b.keep hS).mono λk hk=>⟨hk.1,by obtain ⟨c,hc⟩:=hk.2;exact ⟨c,(hs k hk.2).trans hc⟩⟩⟩
theorem aB.row {w0 w:World}{v:Value}{zs:List Ent}(h:aB w0 w v zs){k:Nat}(hk:v.ownBlock=some k):w0.heap.size<=k/\k<w.heap.size/\eP w 61 k:=by
 obtain ⟨cs,a,_⟩:=h;exact ⟨(a.lt k hk).1,(a.lt k hk).2,MU a hk⟩
theorem xL {P:Program}{K:TypeId}{w:World}{R:Value->Option (DataW Value×List MemPlace)}{b n:Nat}{D:DataW Value}(h:w.ownsMap P K R b n D){t:TypeId}(ht:eP w t b):False:=by
 obtain ⟨es,clock,hb,_⟩:=h;obtain ⟨c,hc⟩:=ht;rw[hb]at hc;cases hc
section
variable {P:Program}{t K e:TypeId}{w0 w:World}{b:Nat}{g:Ent->Int}{zs:List Ent}
theorem q8.made (P:Program)(K:TypeId)(w0 w:World)(g:Ent->Int)(h:w0.heap.size<=w.heap.size):q8 P K w0 (w.alloc (.map #[] 0)) w.heap.size g []:=
 ⟨.map [],λ_=>.slice none 0 0,World.ownsMap_made _ _ _ _,h,Maps.isMap_empty,λ_=>rfl,λd=>by simp[Maps.has],λ_=>aB.nil _ _,λ_ _ _=>.inl rfl⟩
theorem q8.lt (h:q8 P K w0 w b g zs):b<w.heap.size:=by
 obtain ⟨D,f,h1,_⟩:=h;exact h1.lt
theorem q8.base (h:q8 P K w0 w b g zs):w0.heap.size<=b:=by
 obtain ⟨D,f,h1,h2,_⟩:=h;exact h2
theorem q8.rebase {w00:World}(h:q8 P K w0 w b g zs)(hb:w00.heap.size<=w0.heap.size):q8 P K w00 w b g zs:=by
 obtain ⟨D,f,h1,h2,h3,h4,h5,h6,h7⟩:=h;exact ⟨D,f,h1,Nat.le_trans hb h2,h3,h4,h5,λd=>(h6 d).base hb,h7⟩
theorem q8.below {w1:World}(h:q8 P K w0 w b g zs)(hb:Below w.heap.size w w1):q8 P K w0 w1 b g zs:=by
 obtain ⟨D,f,h1,h2,h3,h4,h5,h6,h7⟩:=h;have hl:=h1.lt;obtain ⟨es,clock,k1,k2⟩:=h1;exact ⟨D,f,⟨es,clock,(hb.block b hl).trans k1,k2⟩,h2,h3,h4,h5,λd=>(h6 d).below hb,h7⟩
theorem q8.look (h:q8 P K w0 w b g zs)(ht:P.underlying t=some (.map K e))(hK:P.underlying K=some (.int .i64))(hz: ∀V,(zeroValue e).run P V=.ok (.slice none 0 0) V){d:Int}(hd:fP d)(hn:zs.length<maxLen):
  ∃v,(∀V,V.heap[b]?=w.heap[b]?->(Instr.lookup t (.map (some b)) (.int .i64 d) false).run P V=.ok v V)/\aB w0 w v (zs.filter λx=>g x==d)/\SX P t K w0 w b g zs d v:=by
 obtain ⟨D,f,h1,h2,h3,h4,h5,h6,h7⟩:=h;have hwf:(Lit.int .i64 d).wf=true:=WalkArith.wf_i64 hd;have hkey:keyOf P K (.int .i64 d)=some (.int .i64 d):=keyOf_int_mk hK hwf;have Pd:WideAt.IsKeyLit (.int .i64 d):=trivial;have hrun: ∀V,V.heap[b]?=w.heap[b]?->(Instr.lookup t (.map (some b)) (.int .i64 d) false).run P V=.ok (f d) V:=λV hV=>by
  have h1V:V.ownsMap P K RV b zs.length D:=by
   obtain ⟨es,clock,k1,k2⟩:=h1;exact ⟨es,clock,hV.trans k1,k2⟩
  obtain ⟨v,ps,hrun,hv⟩:=h1V.lookup (int_keyed hK) ht (hz V) (zd:=.held (.slice none 0 0)) (zp:=[]) rfl hkey;have e1:=h4 d;simp only[RV,Option.some.injEq,Prod.mk.injEq]at hv;rw[<-hv.1]at e1;injection e1 with e1;rw[<-e1];exact hrun
 refine ⟨_,hrun,h6 d,?_⟩;intro w1 v' x hg hx hf hloc;have hbl:=h1.lt;have hbv:some b≠(f d).ownBlock:=λe1=>xL h1 ((h6 d).row e1.symm).2.2;have h1':=h1.kept hg hbv;obtain ⟨w2,zw,o2,g2⟩:=h1'.update (int_keyed hK) ht hn (val:=v') (d:=.held v') (ps:=[]) hkey rfl;have hmb: ∀k t,some b=some k->¬eP w1 t k:=λk t e1 hk=>by
  cases e1;exact xL h1' hk
 have hvt: ∀k,(f d).ownBlock=some k->¬eP w 74 k:=λk hk ht=>eP.ne ((h6 d).row hk).2.2 ht (by decide) rfl;have hnot: ∀{u:Value} {l:List Ent},aB w0 w1 u l->u.ownBlock=none\/u.ownBlock≠some b:=λ{u l} hu=>by
  by_cases hb:u.ownBlock=some b
  ·exact absurd (hu.row hb).2.2 (hmb b _ rfl)
  ·exact .inr hb
 refine ⟨w2,zw,⟨_,λd'=>if d'=d then v' else f d',by rw[List.length_append];exact o2,h2,h3.put _ _,λd'=>?_,λd'=>?_,λd'=>?_,λd' d'' hne=>?_⟩,g2⟩
 ·show _=DataW.held (if d'=d then v' else f d');by_cases hdd:d'=d
  ·subst hdd;rw[if_pos rfl];exact Maps.atKey_put_same h3 Pd _ _
  ·rw[if_neg hdd,<-h4 d'];exact Maps.atKey_put_other (λe1=>hdd (by injection e1)) _ _
 ·rw[List.map_append,List.mem_append];by_cases hdd:d'=d
  ·subst hdd;rw[Maps.has_put_same h3 Pd];simp[hx]
  ·rw[Maps.has_put_other (λe1=>hdd (by injection e1)),h5 d'];simp[hx,hdd,λe:d=d'=>hdd e.symm]
 ·show aB w0 w2 (if d'=d then v' else f d') _;rw[List.filter_append];by_cases hdd:d'=d
  ·subst hdd;rw[if_pos rfl,show [x].filter (λx=>g x==d')=[x] by simp[hx]];exact hf.kept g2 (hnot hf) (λk e1=>hmb k _ e1)
  ·rw[if_neg hdd,show [x].filter (λx=>g x==d')=[] by simp[hx];exact λe=>hdd e.symm,List.append_nil];have hk:=(h6 d').kept hg (h7 d' d hdd) hvt;exact hk.kept g2 (hnot hk) (λk e1=>hmb k _ e1)
 ·have other: ∀c,c≠d->(f c).ownBlock=none\/(f c).ownBlock≠v'.ownBlock:=λc hc=>by
   rcases hloc with h|⟨k,h,hk⟩
   ·rw[h];exact h7 c d hc
   ·by_cases hb:(f c).ownBlock=some k
    ·have:=((h6 c).row hb).2.1;omega
    ·rw[h];exact .inr hb
  show (if d'=d then v' else f d').ownBlock=none\/(if d'=d then v' else f d').ownBlock≠(if d''=d then v' else f d'').ownBlock;by_cases hd1:d'=d
  ·subst hd1;rw[if_pos rfl,if_neg (λe1=>hne e1.symm)];rcases other d'' (λe1=>hne e1.symm) with h|h
   ·cases hv':v'.ownBlock with
    |none=>exact .inl rfl
    |some k=>exact .inr (by rw[h];simp)
   ·exact .inr λe1=>h e1.symm
  ·rw[if_neg hd1];by_cases hd2:d''=d
   ·subst hd2;rw[if_pos rfl];exact other d' hd1
   ·rw[if_neg hd2];exact h7 d' d'' hne
theorem q8.get (h:q8 P K w0 w b g zs)(ht:P.underlying t=some (.map K e))(hK:P.underlying K=some (.int .i64))(hz:(zeroValue e).run P w=.ok (.slice none 0 0) w){d:Int}(hd:fP d):
  ∃v,(Instr.lookup t (.map (some b)) (.int .i64 d) false).run P w=.ok v w/\aB w0 w v (zs.filter λx=>g x==d):=by
 obtain ⟨D,f,h1,h2,h3,h4,h5,h6,h7⟩:=h;have hkey:keyOf P K (.int .i64 d)=some (.int .i64 d):=keyOf_int_mk hK (WalkArith.wf_i64 hd);obtain ⟨v,ps,hrun,hv⟩:=h1.lookup (int_keyed hK) ht hz (zd:=.held (.slice none 0 0)) (zp:=[]) rfl hkey;have e0:v=f d:=by
  have e1:=h4 d;simp only[RV,Option.some.injEq,Prod.mk.injEq]at hv;rw[<-hv.1]at e1;injection e1
 subst e0;exact ⟨_,hrun,h6 d⟩
end
theorem Below.grows {w w':World}(h:Below w.heap.size w w')(row:Option Nat):w.grownBy w' row:=⟨h.os,h.tape,h.output,h.size,λk hk _=>h.block k hk⟩
end Go.Proofs.YtggejcekmehocaaGreatDoor
