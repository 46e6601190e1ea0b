/-
  warehouseref22.SameRow, SameEntries; warehouselaw22.sameParts; warehouseworld.Within.
-/
import Derived.Test.YtopjjlmfilgngaaGreatDoorGaj
import Derived.Test.YtopjjlmfilgngaaGreatDoorGad
import Derived.Test.YtopjjlmfilgngaaGreatDoorGae
namespace Go.Proofs.YtopjjlmfilgngaaGreatDoor
set_option maxHeartbeats 1000000
set_option maxRecDepth 100000
open Go.RowKit
set_option linter.unusedSimpArgs false
set_option linter.unusedVariables false
theorem zZ {α:Type}{xs ys:List α}{k:Nat}{x:α}{l m:List α}(h:xs.take k=ys.take k)(hx:xs.drop k=x :: l)(hy:ys.drop k=x :: m):xs.take (k+1)=ys.take (k+1):=by
 rw[bf hx,bf hy,h]
theorem CO {α:Type}{xs ys:List α}{n:Nat}(h:xs.take n=ys.take n)(hx:xs.length=n)(hy:ys.length=n):xs=ys:=by
 rw[List.take_of_length_le (by omega),List.take_of_length_le (by omega)]at h;exact h
theorem D5 {α:Type}{xs ys:List α}{k:Nat}{x y:α}{l m:List α}(hx:xs.drop k=x :: l)(hy:ys.drop k=y :: m)(hne:x≠y):xs≠ys:=λe=>by
 rw[e,hy]at hx;injection hx with hx;exact hne hx.symm
theorem Gj {a b c d:Int}{s t:ByteArray}:(⟨a,c,s⟩:Val)=⟨b,d,t⟩↔a=b/\c=d/\s=t:=by
 constructor
 ·intro h;injection h with h1 h2 h3;exact ⟨h1,h2,h3⟩
 ·rintro ⟨rfl,rfl,rfl⟩;rfl
theorem EH (w:World)(a a' b b':Int)(s s':ByteArray):(binOp .neq 36 (.agg #[.int .i64 a,.int .i64 b,.string s]) (.agg #[.int .i64 a',.int .i64 b',.string s'])).run Tryz.prog w=.ok (.bool (!(a==a'&&b==b'&&s.toList==s'.toList))) w:=by
 have u1:=Tryz.underlying3;have u2:=Tryz.underlying9;have a1:=Tryz.isAgg3;have a2:=Tryz.isAgg9;have z1:=Tryz.sizeOf3;have z2:=Tryz.sizeOf9;have hS:Tryz.prog.underlying 36=some (.struct (Tryz.prog.fieldsOf 36)):=by kernel_rfl
 have hp:Tryz.prog.stoodInHeld 36=false:=by kernel_rfl
 rw[run_neq_struct,show (10000:Nat)=9999+1 from rfl,run_equalIn_agg w 9999 36 _ _ hS hp];simp only[Program.fieldsOf,Tryz.underlying36];go_simp;by_cases h1:a=a' <;> by_cases h2:b=b' <;> by_cases h3:s.toList=s'.toList <;> simp[h1,h2,h3]
theorem EN {a a' b b':Int}{s s':ByteArray}:(a==a'&&b==b'&&s.toList==s'.toList)=true↔(⟨a,b,s⟩:Val)=⟨a',b',s'⟩:=by
 rw[Gj,Bool.and_eq_true,Bool.and_eq_true,beq_iff_eq,beq_iff_eq,beq_iff_eq,and_assoc,ByteArray.toList_eq,ByteArray.toList_eq];constructor
 ·rintro ⟨h1,h2,h3⟩;refine ⟨h1,h2,?_⟩;obtain ⟨⟨x⟩⟩:=s;obtain ⟨⟨y⟩⟩:=s';simp at h3;rw[h3]
 ·rintro ⟨rfl,rfl,rfl⟩;exact ⟨rfl,rfl,rfl⟩
theorem wF (w:World)(A A2:Option Addr)(n n2 c c2:Nat)(xs ys:List Val)(hx:In w A n c xs)(hy:In w A2 n2 c2 ys):
  Calls Tryz.prog 27 #[.slice A n c,.slice A2 n2 c2] w λe w'=>(∃r,e=.returned (.bool r)/\(r=true↔xs=ys))/\Below w.heap.size w w':=by
 have h63:=hx.le;have hm:Tryz.prog.eqGuardType Tryz.prog.depth 36=false:=by kernel_rfl
 have hlx:=hide hx.len;have M8:=hide hy.len;by_cases hl:n=n2
 ·subst hl;go_enter Tryz.func27,Tryz.ntmps27;go_wp2;all_goals (try (exfalso;go_light;simp_all;done));go_loopw [5] (λi wr=> ∃k:Nat,k<=n/\i=.int .i64 k/\xs.take k=ys.take k/\Below w.heap.size w wr) (λi _=>n-(intOf i).toNat)
  case atStart=>exact ⟨0,Nat.zero_le _,rfl,rfl,Below.refl _ _⟩
  case round=>
   obtain ⟨k,hk,rfl,heq,hb⟩:=hrel;have HE:=hide heq;have HB:=hide hb;clear heq;by_cases hlt:k<n
   ·obtain ⟨b,off,x,rfl,hB,HX,e0,e1,e2,e3⟩:=(hx.below hb).val hlt;obtain ⟨b',off',y,rfl,hB',HY,f0,f1,f2,f3⟩:=(hy.below hb).val hlt;have k0:(0:Int)<=(k:Int):=by omega
    have k1:(k:Int)<(n:Int):=by omega
    obtain ⟨xk,xn,xs'⟩:=x;obtain ⟨yk,yn,ys'⟩:=y;simp only at e0 e1 e2 f0 f1 f2;have HQ:=hide (EN (a:=xk) (a':=yk) (b:=xn) (b':=yn) (s:=xs') (s':=ys'));have kq:=λW=>EH W xk yk xn yn xs' ys';cases hr:(xk==yk&&xn==yn&&xs'.toList==ys'.toList)
    ·have HN:Hid (xs≠ys):=hide (D5 HX.out HY.out λe=>by rw[HQ.out.2 e]at hr;cases hr);rw[hr]at kq;clear hr HQ;go_wp2;go_quiet (fail);go_wp2;go_ret;exact ⟨⟨false,rfl,(λh=>by cases h),λh=>absurd h HN.out⟩,dF HB.out⟩
    ·have hv:=HQ.out.1 hr;rw[hr]at kq;have HN:Hid (xs.take (k+1)=ys.take (k+1)):=hide (zZ HE.out HX.out (by rw[hv];exact HY.out));clear hr HQ hv;go_wp2;go_quiet (fail);go_wp2;go_roundw
     case rel=>exact ⟨k+1,by omega,by go_num,HN.out,dF HB.out⟩
     case measure=>simp[intOf];omega
   ·have HN:=hide (CO (n:=k) HE.out (by rw[hlx.out];omega) (by rw[M8.out];omega));go_wp2;go_ret;exact ⟨⟨true,rfl,λ_=>HN.out,λ_=>rfl⟩,HB.out⟩
 ·have HN:Hid (xs≠ys):=hide λe=>hl (by rw[<-hlx.out,<-M8.out,e]);have q:((n:Int) != (n2:Int))=true:=by simp;omega
  clear hl;go_enter Tryz.func27,Tryz.ntmps27;go_wp2;all_goals (try (exfalso;go_light;simp_all;done));go_ret;exact ⟨⟨false,rfl,(λh=>by cases h),λh=>absurd h HN.out⟩,Below.refl _ _⟩
end Go.Proofs.YtopjjlmfilgngaaGreatDoor
