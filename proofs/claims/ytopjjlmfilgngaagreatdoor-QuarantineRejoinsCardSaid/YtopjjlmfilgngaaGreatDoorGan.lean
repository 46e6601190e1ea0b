/-
  warehouseref22.SameRow, SameEntries; warehouselaw22.sameParts; warehouseworld.Within. warehouseref6.Sum and Normalize.
-/
import Derived.Test.YtopjjlmfilgngaaGreatDoorGaj
import Derived.Test.YtopjjlmfilgngaaGreatDoorGad
import Derived.Test.YtopjjlmfilgngaaGreatDoorGae
import Derived.Test.YtopjjlmfilgngaaGreatDoorGak
namespace Go.Proofs.YtopjjlmfilgngaaGreatDoor
set_option maxHeartbeats 2000000
set_option maxRecDepth 100000
open Go.RowKit
set_option linter.unusedSimpArgs false
set_option linter.unusedVariables false
theorem take_step {α:Type}{xs ys:List α}{k:Nat}{x:α}{l m:List α}(h:xs.take k=ys.take k)(hx:xs.drop k=x :: l)(hy:ys.drop k=x :: m):xs.take (k+1)=ys.take (k+1):=by
 rw[bN hx,bN hy,h]
theorem take_all {α:Type}{xs ys:List α}{n:Nat}(h:xs.take n=ys.take n)(hx:xs.length=n)(hy:ys.length=n):xs=ys:=by
 rw[List.take_of_length_le (by omega),List.take_of_length_le (by omega)]at h;exact h
theorem drop_ne {α:Type}{xs ys:List α}{k:Nat}{x y:α}{l m:List α}(hx:xs.drop k=x :: l)(hy:ys.drop k=y :: m)(hne:x≠y):xs≠ys:=λe=>by
 rw[e,hy]at hx;injection hx with hx;exact hne hx.symm
theorem L6 {a b c d:Int}{s t:ByteArray}:(⟨a,c,s⟩:Val)=⟨b,d,t⟩↔a=b/\c=d/\s=t:=by
 constructor
 ·intro h;injection h with h1 h2 h3;exact ⟨h1,h2,h3⟩
 ·rintro ⟨rfl,rfl,rfl⟩;rfl
theorem neq_val (w:World)(a a' b b':Int)(s s':ByteArray):(binOp .neq 36 (.agg #[.int .i64 a,.int .i64 b,.string s]) (.agg #[.int .i64 a',.int .i64 b',.string s'])).run Tryz.prog w=.ok (.bool (!(a==a'&&b==b'&&s.toList==s'.toList))) w:=by
 have u1:=Tryz.underlying3;have u2:=Tryz.underlying9;have a1:=Tryz.isAgg3;have a2:=Tryz.isAgg9;have z1:=Tryz.sizeOf3;have z2:=Tryz.sizeOf9;have hS:Tryz.prog.underlying 36=some (.struct (Tryz.prog.fieldsOf 36)):=by kernel_rfl
 have hp:Tryz.prog.stoodInHeld 36=false:=by kernel_rfl
 rw[run_neq_struct,show (10000:Nat)=9999+1 from rfl,run_equalIn_agg w 9999 36 _ _ hS hp];simp only[Program.fieldsOf,Tryz.underlying36];go_simp;by_cases h1:a=a' <;> by_cases h2:b=b' <;> by_cases h3:s.toList=s'.toList <;> simp[h1,h2,h3]
theorem JI {a a' b b':Int}{s s':ByteArray}:(a==a'&&b==b'&&s.toList==s'.toList)=true↔(⟨a,b,s⟩:Val)=⟨a',b',s'⟩:=by
 rw[L6,Bool.and_eq_true,Bool.and_eq_true,beq_iff_eq,beq_iff_eq,beq_iff_eq,and_assoc,ByteArray.toList_eq,ByteArray.toList_eq];constructor
 ·rintro ⟨h1,h2,h3⟩;refine ⟨h1,h2,?_⟩;obtain ⟨⟨x⟩⟩:=s;obtain ⟨⟨y⟩⟩:=s';simp at h3;rw[h3]
 ·rintro ⟨rfl,rfl,rfl⟩;exact ⟨rfl,rfl,rfl⟩
theorem sameRow_any (w:World)(A A2:Option Addr)(n n2 c c2:Nat)(xs ys:List Val)(hx:In w A n c xs)(hy:In w A2 n2 c2 ys):
  Calls Tryz.prog 27 #[.slice A n c,.slice A2 n2 c2] w λe w'=>(∃r,e=.returned (.bool r)/\(r=true↔xs=ys))/\Below w.heap.size w w':=by
 have h63:=hx.le;have hm:Tryz.prog.eqGuardType Tryz.prog.depth 36=false:=by kernel_rfl
 have hlx:=hide hx.len;have hly:=hide hy.len;by_cases hl:n=n2
 ·subst hl;go_enter Tryz.func27,Tryz.ntmps27;go_wp2;all_goals (try (exfalso;go_light;simp_all;done));go_loopw [5] (λi wr=> ∃k:Nat,k<=n/\i=.int .i64 k/\xs.take k=ys.take k/\Below w.heap.size w wr) (λi _=>n-(intOf i).toNat)
  case atStart=>exact ⟨0,Nat.zero_le _,rfl,rfl,Below.refl _ _⟩
  case round=>
   obtain ⟨k,hk,rfl,heq,hb⟩:=hrel;have HE:=hide heq;have HB:=hide hb;clear heq;by_cases hlt:k<n
   ·obtain ⟨b,off,x,rfl,hB,HX,e0,e1,e2,e3⟩:=(hx.below hb).val hlt;obtain ⟨b',off',y,rfl,hB',HY,f0,f1,f2,f3⟩:=(hy.below hb).val hlt;have k0:(0:Int)<=(k:Int):=by omega
    have k1:(k:Int)<(n:Int):=by omega
    obtain ⟨xk,xn,xs'⟩:=x;obtain ⟨yk,yn,ys'⟩:=y;simp only at e0 e1 e2 f0 f1 f2;have HQ:=hide (JI (a:=xk) (a':=yk) (b:=xn) (b':=yn) (s:=xs') (s':=ys'));have kq:=λW=>neq_val W xk yk xn yn xs' ys';cases hr:(xk==yk&&xn==yn&&xs'.toList==ys'.toList)
    ·have HN:Hid (xs≠ys):=hide (drop_ne HX.out HY.out λe=>by rw[HQ.out.2 e]at hr;cases hr);rw[hr]at kq;clear hr HQ;go_wp2;go_quiet (fail);go_wp2;go_ret;exact ⟨⟨false,rfl,(λh=>by cases h),λh=>absurd h HN.out⟩,eQ HB.out⟩
    ·have hv:=HQ.out.1 hr;rw[hr]at kq;have HN:Hid (xs.take (k+1)=ys.take (k+1)):=hide (take_step HE.out HX.out (by rw[hv];exact HY.out));clear hr HQ hv;go_wp2;go_quiet (fail);go_wp2;go_roundw
     case rel=>exact ⟨k+1,by omega,by go_num,HN.out,eQ HB.out⟩
     case measure=>simp[intOf];omega
   ·have HN:=hide (take_all (n:=k) HE.out (by rw[hlx.out];omega) (by rw[hly.out];omega));go_wp2;go_ret;exact ⟨⟨true,rfl,λ_=>HN.out,λ_=>rfl⟩,HB.out⟩
 ·have HN:Hid (xs≠ys):=hide λe=>hl (by rw[<-hlx.out,<-hly.out,e]);have q:((n:Int) != (n2:Int))=true:=by simp;omega
  clear hl;go_enter Tryz.func27,Tryz.ntmps27;go_wp2;all_goals (try (exfalso;go_light;simp_all;done));go_ret;exact ⟨⟨false,rfl,(λh=>by cases h),λh=>absurd h HN.out⟩,Below.refl _ _⟩
theorem ent_eq {r r':List Val}{a b:Int}:(⟨r,a⟩:Ent)=⟨r',b⟩↔r=r'/\a=b:=by
 constructor
 ·intro h;injection h with h1 h2;exact ⟨h1,h2⟩
 ·rintro ⟨rfl,rfl⟩;rfl
theorem sameEnts_any (w:World)(A A2:Option Addr)(n n2 c c2:Nat)(xs ys:List Ent)(hx:In w A n c xs)(hy:In w A2 n2 c2 ys):
  Calls Tryz.prog 24 #[.slice A n c,.slice A2 n2 c2] w λe w'=>(∃r,e=.returned (.bool r)/\(r=true↔xs=ys))/\Below w.heap.size w w':=by
 have h63:=hx.le;have hlx:=hide hx.len;have hly:=hide hy.len;by_cases hl:n=n2
 ·subst hl;go_enter Tryz.func24,Tryz.ntmps24;go_wp2;all_goals (try (exfalso;go_light;simp_all;done));go_loopw [5] (λi wr=> ∃k:Nat,k<=n/\i=.int .i64 k/\xs.take k=ys.take k/\Below w.heap.size w wr) (λi _=>n-(intOf i).toNat)
  case atStart=>exact ⟨0,Nat.zero_le _,rfl,rfl,Below.refl _ _⟩
  case round=>
   obtain ⟨k,hk,rfl,heq,hb⟩:=hrel;have HE:=hide heq;have HB:=hide hb;clear heq;by_cases hlt:k<n
   ·obtain ⟨b,off,x,rfl,hB,HX,A3,n3,c3,e0,e1,e2,e3⟩:=(hx.below hb).ent hlt;obtain ⟨b',off',y,rfl,hB',HY,A4,n4,c4,f0,f1,f2,f3⟩:=(hy.below hb).ent hlt;have k0:(0:Int)<=(k:Int):=by omega
    have k1:(k:Int)<(n:Int):=by omega
    have E0:=hide e0;have E1:=hide e1;have F0:=hide f0;have F1:=hide f1;have HBb:=hide hB;have HBc:=hide hB';obtain ⟨xr,xc⟩:=x;obtain ⟨yr,yc⟩:=y;simp only at e1 f1 e2 f2;by_cases hcc:xc=yc
    ·have q:(xc != yc)=false:=by simp[hcc]
     have Ef:=hide hcc;clear hcc;go_wp2;go_region_held3 (λV=>V.cell? ⟨b,off+k*2,none⟩=some (.slice A3 n3 c3)/\V.cell? ⟨b,off+k*2+1,none⟩=some (.int .i64 xc)/\V.cell? ⟨b',off'+k*2,none⟩=some (.slice A4 n4 c4)/\V.cell? ⟨b',off'+k*2+1,none⟩=some (.int .i64 yc))
      (first|exact ⟨e0,e1,f0,f1⟩|exact ⟨aj HB2.out HBb.out E0.out,aj HB2.out HBb.out E1.out,aj HB2.out HBc.out F0.out,aj HB2.out HBc.out F1.out⟩)
      (first|(go_at_call 27;refine (sameRow_any _ A3 A4 n3 n4 c3 c4 xr yr (by exact e2.below (Below.refl _ _).drew) (by exact f2.below (Below.refl _ _).drew)).mono ?_;rintro e w2 ⟨⟨r,rfl,hr⟩,hb2⟩;have HR:=hide hr;have HB2:=hide (ak hb2);clear hb2 hr))
     have xO:=hide (aa HB.out HB2.out);cases r
     ·have HN:Hid (xs≠ys):=hide (drop_ne HX.out HY.out λe=>by have:=HR.out.2 (ent_eq.1 e).1;cases this);go_wp2;all_goals (try (exfalso;go_light;simp_all;done));go_ret;exact ⟨⟨false,rfl,(λh=>by cases h),λh=>absurd h HN.out⟩,xO.out⟩
     ·have HN:Hid (xs.take (k+1)=ys.take (k+1)):=hide (take_step HE.out HX.out (by rw[ent_eq.2 ⟨HR.out.1 rfl,Ef.out⟩];exact HY.out));go_wp2;all_goals (try (exfalso;go_light;simp_all;done));go_roundw
      case rel=>exact ⟨k+1,by omega,by go_num,HN.out,xO.out⟩
      case measure=>simp[intOf];omega
    ·have HN:Hid (xs≠ys):=hide (drop_ne HX.out HY.out λe=>hcc (ent_eq.1 e).2);have q:(xc != yc)=true:=by simpa using hcc
     clear hcc;go_wp2;go_quiet (fail);go_wp2;all_goals (try (exfalso;go_light;simp_all;done));go_ret;exact ⟨⟨false,rfl,(λh=>by cases h),λh=>absurd h HN.out⟩,eQ HB.out⟩
   ·have HN:=hide (take_all (n:=k) HE.out (by rw[hlx.out];omega) (by rw[hly.out];omega));go_wp2;go_ret;exact ⟨⟨true,rfl,λ_=>HN.out,λ_=>rfl⟩,HB.out⟩
 ·have HN:Hid (xs≠ys):=hide λe=>hl (by rw[<-hlx.out,<-hly.out,e]);have q:((n:Int) != (n2:Int))=true:=by simp;omega
  clear hl;go_enter Tryz.func24,Tryz.ntmps24;go_wp2;all_goals (try (exfalso;go_light;simp_all;done));go_ret;exact ⟨⟨false,rfl,(λh=>by cases h),λh=>absurd h HN.out⟩,Below.refl _ _⟩
theorem fZ {P:List Val->Prop}: ∀n xs ys,xs.length+ys.length<=n->(∀x∈xs,P x.row)->(∀x∈ys,P x.row)-> ∀x∈aL xs ys,P x.row
 | 0,xs,ys,h,_,_=>by
  rw[List.eq_nil_of_length_eq_zero (show xs.length=0 by omega),List.eq_nil_of_length_eq_zero (show ys.length=0 by omega)];intro x hx;cases hx
 |n+1,[],[],_,_,_=>by intro x hx;cases hx
 |n+1,[],y :: ys,h,hx,hy=>by
  rw[iR];have ih:=fZ n [] ys (by simp at h⊢;omega) hx (λz hz=>hy z (List.mem_cons_of_mem _ hz));intro z hz;cases hz with
  |head=>exact hy y (List.mem_cons_self ..)
  |tail _ hz=>exact ih z hz
 |n+1,x :: xs,[],h,hx,hy=>by
  rw[jF];have ih:=fZ n xs [] (by simp at h⊢;omega) (λz hz=>hx z (List.mem_cons_of_mem _ hz)) hy;intro z hz;cases hz with
  |head=>exact hx x (List.mem_cons_self ..)
  |tail _ hz=>exact ih z hz
 |n+1,x :: xs,y :: ys,h,hx,hy=>by
  have hx1:=hx x (List.mem_cons_self ..);have hy1:=hy y (List.mem_cons_self ..);have i1:=fZ n xs (y :: ys) (by simp at h⊢;omega) (λz hz=>hx z (List.mem_cons_of_mem _ hz)) hy;have i2:=fZ n (x :: xs) ys (by simp at h⊢;omega) hx (λz hz=>hy z (List.mem_cons_of_mem _ hz));have i3:=fZ n xs ys (by simp at h⊢;omega) (λz hz=>hx z (List.mem_cons_of_mem _ hz)) (λz hz=>hy z (List.mem_cons_of_mem _ hz));rw[jE]
  split
  ·intro z hz;cases hz with
   |head=>exact hx1
   |tail _ hz=>exact i1 z hz
  ·split
   ·intro z hz;cases hz with
    |head=>exact hy1
    |tail _ hz=>exact i2 z hz
   ·intro z hz;cases hz with
    |head=>exact hx1
    |tail _ hz=>exact i3 z hz
theorem oJ {P:List Val->Prop}: ∀n (l:List Ent),l.length<=n->(∀x∈l,P x.row)-> ∀x∈bz l,P x.row
 | 0,l,h,_=>by
  rw[List.eq_nil_of_length_eq_zero (show l.length=0 by omega)];intro x hx;cases hx
 |n+1,l,h,hb=>by
  by_cases hl:l.length<2
  ·rw[jJ hl];exact hb
  ·rw[lg hl];have h1:(l.take (l.length / 2)).length=l.length / 2:=by rw[List.length_take];omega
   have h2:(l.drop (l.length / 2)).length=l.length-l.length / 2:=by rw[List.length_drop]
   have b1:=oJ n (l.take (l.length / 2)) (by omega) (λx hx=>hb x (List.mem_of_mem_take hx));have b2:=oJ n (l.drop (l.length / 2)) (by omega) (λx hx=>hb x (List.mem_of_mem_drop hx));exact fZ _ _ _ (Nat.le_refl _) b1 b2
theorem ax.base {w w0 w1:World}{v:Value}{zs:List Ent}(h:ax w0 w1 v zs)(hb:w.heap.size<=w0.heap.size):ax w w1 v zs:=by
 obtain ⟨cs,h1,h2⟩:=h;refine ⟨cs,⟨h1.1,?_⟩,h2.mono λk hk=>⟨Nat.le_trans hb hk.1,hk.2⟩⟩;rcases h1.2 with h|⟨g,cap,cur,e,hg,r⟩
 ·exact .inl h
 ·exact .inr ⟨g,cap,cur,e,Nat.le_trans hb hg,r⟩
def Ag (xs:List Ent)(m:Int)(zs:List Ent):Prop:=(m=2/\aZ 0 (bz xs)=true/\zs=[])\/(m=0/\aZ 0 (bz xs)=false/\zs=aY (bz xs))
theorem JH (w:World)(A:Option Addr)(n c:Nat)(xs:List Ent)(hx:In w A n c xs)(hn:n<=1048576)(hb:oK 65536 xs)(hrow: ∀x∈xs,x.row.length<=12):
  Calls Tryz.prog 73 #[.slice A n c] w
   λe w'=>(∃v m zs,e=.returned (.tuple #[v,.int .i64 m])/\ax w w' v zs/\Ag xs m zs)/\Below w.heap.size w w':=by
 have h63:=hx.le;have hlen:=hide hx.len;have hs:=uB 65536 (by omega) (by omega) n w A n c xs (Nat.le_refl _) hn hx hb;have hl:=kv _ xs (Nat.le_refl _);rw[hx.len]at hl;have hr:=hide (oJ (P:=λl=>l.length<=4096) _ xs (Nat.le_refl _) (λx hx=>Nat.le_trans (hrow x hx) (by omega)));clear hrow hb;go_enter Tryz.func73,Tryz.ntmps73;go_wp2_with fail;refine hs.mono ?_;rintro e w1 ⟨⟨B,d,rfl,hin⟩,hb1⟩;go_wp2_with fail;refine (uw w1 B _ d (bz xs) hin (by omega) hr.out).mono ?_;rintro e w2 ⟨⟨v,m,zs,rfl,hf,hm⟩,hb2⟩;have hbb:=aa hb1 hb2;have HF:=hide (hf.base hb1.size);have HM:Hid (Ag xs m zs):=hide hm;clear hf hm hin;go_wp2;go_ret2;exact ⟨⟨_,_,zs,rfl,HF.out,HM.out⟩,hbb⟩
def sj (xs:List Ent)(m:Int)(zs:List Ent):Prop:=
 (ag (λ_ x=>aA x) 0 xs≠0/\m=ag (λ_ x=>aA x) 0 xs/\zs=[])\/(ag (λ_ x=>aA x) 0 xs=0/\Ag xs m zs)
theorem yD: ∀{xs:List Ent} {k:Nat},ag (λ_ x=>aA x) k xs=0->oK 65536 xs/\ ∀x∈xs,x.row.length<=12
 | [],_,_=>⟨(λx h=>by cases h),(λx h=>by cases h)⟩
 |x :: xs,k,h=>by
  have h0:aA x=0:=by
   rw[ag]at h;by_cases he:aA x=0
   ·exact he
   ·rw[if_pos he]at h;exact h
  rw[aT h0]at h;obtain ⟨i1,i2⟩:=yD h;rw[jc]at h0;have h1:¬(12<x.row.length\/x.count < -65536\/65536<x.count):=λe=>by rw[if_pos e]at h0;omega
  refine ⟨λz hz=>?_,λz hz=>?_⟩
  ·cases hz with
   |head=>omega
   |tail _ hz=>exact i1 z hz
  ·cases hz with
   |head=>omega
   |tail _ hz=>exact i2 z hz
theorem u6 (w:World)(A:Option Addr)(n c:Nat)(xs:List Ent)(hx:In w A n c xs)(hn:n<=1048576):
  Calls Tryz.prog 44 #[.slice A n c] w
   λe w'=>(∃v m zs,e=.returned (.tuple #[v,.int .i64 m])/\ax w w' v zs/\sj xs m zs)/\Below w.heap.size w w':=by
 have h63:=hx.le;have hlen:=hide hx.len;go_enter Tryz.func44,Tryz.ntmps44;go_wp2;go_loopw [4] (λi wr=> ∃k:Nat,k<=n/\i=.int .i64 k/\ag (λ_ x=>aA x) 0 xs=ag (λ_ x=>aA x) k (xs.drop k)/\Below w.heap.size w wr) (λi _=>n-(intOf i).toNat)
 case atStart=>exact ⟨0,Nat.zero_le _,rfl,rfl,Below.refl _ _⟩
 case round=>
  obtain ⟨k,hk,rfl,heq,hb⟩:=hrel;have HE:=hide heq;clear heq;by_cases hlt:k<n
  ·obtain ⟨b,off,x,rfl,hB,HX,A2,n2,c2,f0,f1,f2,f3⟩:=(hx.below hb).ent hlt;have f3':=hide f3;go_wp2_with fail;refine (vQ wr A2 n2 c2 x f2 f3'.out).mono ?_;rintro e w1 ⟨rfl,hb1⟩;have hbb:=aa hb hb1;clear hb1 f0 f1 f2;by_cases hv:aA x=0
   ·have HR:Hid (ag (λ_ x=>aA x) 0 xs=ag (λ_ x=>aA x) (k+1) (xs.drop (k+1))):=hide (by rw[HE.out,HX.out];exact aT hv);rw[hv];go_wp2;go_roundw
    case rel=>exact ⟨k+1,by omega,by go_num,HR.out,hbb⟩
    case measure=>simp[intOf];omega
   ·have HR:Hid (ag (λ_ x=>aA x) 0 xs=aA x):=hide (by rw[HE.out,HX.out];exact aK rfl hv);have hv':(aA x==0)=false:=by simpa using hv
    generalize aA x=m at*;go_wp2;all_goals (try (exfalso;go_light;simp_all;done));go_ret2;exact ⟨⟨_,_,[],rfl,⟨[],World.ownsRow_nil _ _ _ _,rfl⟩,.inl ⟨by rw[HR.out];exact hv,HR.out.symm,rfl⟩⟩,hbb⟩
  ·have HR:Hid (ag (λ_ x=>aA x) 0 xs=0):=hide (by rw[HE.out,aD hx.len (by omega),ag]);have hfit:=hide (yD HR.out);have hin:=hide (hx.below hb);go_wp2_with fail;refine (JH wr A n c xs hin.out hn hfit.out.1 hfit.out.2).mono ?_;rintro e w2 ⟨⟨v,m,zs,rfl,hf,hm⟩,hb2⟩;have hbb:=aa hb hb2;have HF:=hide (hf.base hb.size);have HM:=hide hm;clear hf hm;go_wp2;go_ret2;exact ⟨⟨_,_,zs,rfl,HF.out,.inr ⟨HR.out,HM.out⟩⟩,hbb⟩
end Go.Proofs.YtopjjlmfilgngaaGreatDoor
