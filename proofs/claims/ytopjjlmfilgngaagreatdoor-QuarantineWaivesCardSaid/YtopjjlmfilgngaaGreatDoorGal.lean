/-
  warehouseref22.SameRow, SameEntries; warehouselaw22.sameParts; warehouseworld.Within. warehouseworld.SameTexts of equal lists. warehouseref6.sorted. warehouseref6.result: the entries with counts that are not 0, with rows in new memory. warehouseref6.Sum and Normalize.
-/
import Derived.BigQuiet
import Derived.Test.YtopjjlmfilgngaaGreatDoorGak
import Derived.Test.YtopjjlmfilgngaaGreatDoorGad
import Derived.Test.YtopjjlmfilgngaaGreatDoorGae
import Derived.Test.YtopjjlmfilgngaaGreatDoorGac
import Derived.Test.YtopjjlmfilgngaaGreatDoorMerge
namespace Go.Proofs.YtopjjlmfilgngaaGreatDoor
set_option maxHeartbeats 4000000
set_option maxRecDepth 100000
open Go.RowKit
set_option linter.unusedSimpArgs false
set_option linter.unusedVariables false
theorem Lg {α:Type}{xs ys:List α}{k:Nat}{x:α}{l m:List α}(h:xs.take k=ys.take k)(hx:xs.drop k=x :: l)(hy:ys.drop k=x :: m):xs.take (k+1)=ys.take (k+1):=by
 rw[bg hx,bg hy,h]
theorem OO {α:Type}{xs ys:List α}{n:Nat}(h:xs.take n=ys.take n)(hx:xs.length=n)(hy:ys.length=n):xs=ys:=by
 rw[List.take_of_length_le (by omega),List.take_of_length_le (by omega)]at h;exact h
theorem Ql {α:Type}{xs ys:List α}{k:Nat}{x y:α}{l m:List α}(hx:xs.drop k=x :: l)(hy:ys.drop k=y :: m)(hne:x≠y):xs≠ys:=λe=>by
 rw[e,hy]at hx;injection hx with hx;exact hne hx.symm
theorem T9 {a b c d:Int}{s t:ByteArray}:(⟨a,c,s⟩:Val)=⟨b,d,t⟩↔a=b/\c=d/\s=t:=by
 constructor
 ·intro h;injection h with h1 h2 h3;exact ⟨h1,h2,h3⟩
 ·rintro ⟨rfl,rfl,rfl⟩;rfl
theorem Q4 (w:World)(a a' b b':Int)(s s':ByteArray):(binOp .neq 36 (.agg #[.int .i64 a,.int .i64 b,.string s]) (.agg #[.int .i64 a',.int .i64 b',.string s'])).run Tryz.prog w=.ok (.bool (!(a==a'&&b==b'&&s.toList==s'.toList))) w:=by
 have u1:=Tryz.underlying3;have u2:=Tryz.underlying9;have a1:=Tryz.isAgg3;have a2:=Tryz.isAgg9;have z1:=Tryz.sizeOf3;have z2:=Tryz.sizeOf9;have hS:Tryz.prog.underlying 36=some (.struct (Tryz.prog.fieldsOf 36)):=by kernel_rfl
 have hp:Tryz.prog.stoodInHeld 36=false:=by kernel_rfl
 rw[run_neq_struct,show (10000:Nat)=9999+1 from rfl,run_equalIn_agg w 9999 36 _ _ hS hp];simp only[Program.fieldsOf,Tryz.underlying36];go_simp;by_cases h1:a=a' <;> by_cases h2:b=b' <;> by_cases h3:s.toList=s'.toList <;> simp[h1,h2,h3]
theorem Rc {a a' b b':Int}{s s':ByteArray}:(a==a'&&b==b'&&s.toList==s'.toList)=true↔(⟨a,b,s⟩:Val)=⟨a',b',s'⟩:=by
 rw[T9,Bool.and_eq_true,Bool.and_eq_true,beq_iff_eq,beq_iff_eq,beq_iff_eq,and_assoc,ByteArray.toList_eq,ByteArray.toList_eq];constructor
 ·rintro ⟨h1,h2,h3⟩;refine ⟨h1,h2,?_⟩;obtain ⟨⟨x⟩⟩:=s;obtain ⟨⟨y⟩⟩:=s';simp at h3;rw[h3]
 ·rintro ⟨rfl,rfl,rfl⟩;exact ⟨rfl,rfl,rfl⟩
theorem rP (w:World)(A A2:Option Addr)(n n2 c c2:Nat)(xs ys:List Val)(hx:In w A n c xs)(hy:In w A2 n2 c2 ys):
  Calls Tryz.prog 27 #[.slice A n c,.slice A2 n2 c2] w λe w'=>(∃r,e=.returned (.bool r)/\(r=true↔xs=ys))/\Below w.heap.size w w':=by
 have h63:=hx.le;have hm:Tryz.prog.eqGuardType Tryz.prog.depth 36=false:=by kernel_rfl
 have hlx:=hide hx.len;have hly:=hide hy.len;by_cases hl:n=n2
 ·subst hl;go_enter Tryz.func27,Tryz.ntmps27;go_wp2;all_goals (try (exfalso;go_light;simp_all;done));go_loopw [5] (λi wr=> ∃k:Nat,k<=n/\i=.int .i64 k/\xs.take k=ys.take k/\Below w.heap.size w wr) (λi _=>n-(intOf i).toNat)
  case atStart=>exact ⟨0,Nat.zero_le _,rfl,rfl,Below.refl _ _⟩
  case round=>
   obtain ⟨k,hk,rfl,heq,hb⟩:=hrel;have HE:=hide heq;have HB:=hide hb;clear heq;by_cases hlt:k<n
   ·obtain ⟨b,off,x,rfl,hB,HX,e0,e1,e2,e3⟩:=(hx.below hb).val hlt;obtain ⟨b',off',y,rfl,hB',HY,f0,f1,f2,f3⟩:=(hy.below hb).val hlt;have k0:(0:Int)<=(k:Int):=by omega
    have k1:(k:Int)<(n:Int):=by omega
    obtain ⟨xk,xn,xs'⟩:=x;obtain ⟨yk,yn,ys'⟩:=y;simp only at e0 e1 e2 f0 f1 f2;have HQ:=hide (Rc (a:=xk) (a':=yk) (b:=xn) (b':=yn) (s:=xs') (s':=ys'));have kq:=λW=>Q4 W xk yk xn yn xs' ys';cases hr:(xk==yk&&xn==yn&&xs'.toList==ys'.toList)
    ·have HN:Hid (xs≠ys):=hide (Ql HX.out HY.out λe=>by rw[HQ.out.2 e]at hr;cases hr);rw[hr]at kq;clear hr HQ;go_wp2;go_quiet (fail);go_wp2;go_ret;exact ⟨⟨false,rfl,(λh=>by cases h),λh=>absurd h HN.out⟩,bY HB.out⟩
    ·have hv:=HQ.out.1 hr;rw[hr]at kq;have HN:Hid (xs.take (k+1)=ys.take (k+1)):=hide (Lg HE.out HX.out (by rw[hv];exact HY.out));clear hr HQ hv;go_wp2;go_quiet (fail);go_wp2;go_roundw
     case rel=>exact ⟨k+1,by omega,by go_num,HN.out,bY HB.out⟩
     case measure=>simp[intOf];omega
   ·have HN:=hide (OO (n:=k) HE.out (by rw[hlx.out];omega) (by rw[hly.out];omega));go_wp2;go_ret;exact ⟨⟨true,rfl,λ_=>HN.out,λ_=>rfl⟩,HB.out⟩
 ·have HN:Hid (xs≠ys):=hide λe=>hl (by rw[<-hlx.out,<-hly.out,e]);have q:((n:Int) != (n2:Int))=true:=by simp;omega
  clear hl;go_enter Tryz.func27,Tryz.ntmps27;go_wp2;all_goals (try (exfalso;go_light;simp_all;done));go_ret;exact ⟨⟨false,rfl,(λh=>by cases h),λh=>absurd h HN.out⟩,Below.refl _ _⟩
theorem Ed (w:World)(A:Option Addr)(n c:Nat)(A2:Option Addr)(c2:Nat)(xs:List ByteArray)(hx:In w A n c xs)(hy:In w A2 n c2 xs):
  Calls Tryz.prog 17 #[.slice A n c,.slice A2 n c2] w λe w'=>e=.returned (.bool true)/\Below w.heap.size w w':=by
 have h63:=hx.le;go_enter Tryz.func17,Tryz.ntmps17;have HX:=hide hx;have HY:=hide hy;clear hx hy;go_wp2;all_goals (try (exfalso;go_light;simp_all;done));go_loopw [5] (λi wr=> ∃k:Nat,k<=n/\i=.int .i64 k/\Below w.heap.size w wr) (λi _=>n-(RowKit.intOf i).toNat)
 case atStart=>exact ⟨0,Nat.zero_le _,rfl,Below.refl _ _⟩
 case round=>
  obtain ⟨k,hk,rfl,hb⟩:=hrel;have HB:=hide hb;by_cases hlt:k<n
  ·obtain ⟨b,off,x,rfl,hBb,HXX,e0,hs⟩:=HX.out.str hlt;obtain ⟨b2,KU,y,rfl,Hm,HYY,f0,hs2⟩:=HY.out.str hlt;obtain rfl:y=x:=by
    have h1:=HXX.out;rw[HYY.out]at h1;exact (List.cons.inj h1).1
   have e0:=ah HB.out hBb e0;have f0:=ah HB.out Hm f0;have k0:(0:Int)<=(k:Int):=by omega
   have k1:(k:Int)<(n:Int):=by omega
   clear hb;go_wp2;go_quiet (fail);go_wp2;all_goals (try (exfalso;go_light;simp_all;done));go_roundw
   case rel=>exact ⟨k+1,by omega,by go_num,below_drewN HB.out _⟩
   case measure=>simp[RowKit.intOf];omega
  ·go_wp2;go_ret;exact ⟨rfl,HB.out⟩
theorem cells_one: ∀{xs:List Ent} {w:World} {S:Nat->Prop} {cs:List Value},Cells w S cs xs-> ∀u∈cs,u.oneCell'=true
 | [],_,_,_,h,u,hu=>by rw[show _=[] from h]at hu;cases hu
 |x :: xs,_,_,_,⟨c0,c1,rfl,h0,h1⟩,u,hu=>by
  rcases List.mem_append.1 hu with h|h
  ·obtain ⟨A,n,c,e,_,_⟩:=h0;rw[e]at h;exact l7 u h
  ·exact cells_one h1 u h
theorem Sl.head {α:Type}[Rep α]{w:World}{S:Nat->Prop}{A:Option Addr}{n c k:Nat}{xs:List α}(h:Sl w S A n c xs)(hk:k<=n):Sl w S A k c (xs.take k):=by
 refine ⟨by rw[List.length_take,h.1];omega,by have:=h.2.1;omega,h.2.2.1,h.2.2.2.1,λhn=>?_⟩;obtain ⟨b,off,e,hb,hi⟩:=h.2.2.2.2 (by omega);refine ⟨b,off,e,hb,λi hi'=>?_⟩;rw[List.length_take]at hi';rw[List.getElem_take];exact hi i (by omega)
theorem OwnEnts.sl {w w':World}{S:Nat->Prop}{v:Value}{zs:List Ent}(h:OwnEnts w w' S v zs)(hS: ∀k,S k->k<w'.heap.size): ∃A c,v=.slice A zs.length c/\In w' A zs.length c zs:=by
 obtain ⟨cs,h1,h2⟩:=h.own;obtain ⟨A,c,e,hs,_⟩:=gP (T:=λk=>k<w'.heap.size) h1 h2 hS rfl (λg _ hg=>hg.lt);exact ⟨A,c,e,hs⟩
theorem vB (w:World)(A:Option Addr)(n c:Nat)(xs:List Ent)(hx:In w A n c xs)(hn:n<2):
  Calls Tryz.prog 101 #[.slice A n c] w
   λe w'=>(∃B d,e=.returned (.slice B (dQ xs).length d)/\In w' B (dQ xs).length d (dQ xs))/\Below w.heap.size w w':=by
 obtain ⟨i0,hi,hz0,hz1,hz2⟩:=info_parts oM;obtain ⟨cs,hcs,hsrc⟩:=Sl.cells hx;have HL:=hide hx.len;have hA:A=none->n=0:=λh=>by have:=hx.2.2.2.1 h;have:=hx.2.1;omega
 have h1:=cells_one hcs;have HS:=hide (nK (l:=xs) (by rw[hx.len];exact hn));go_enter Tryz.func101,Tryz.ntmps101;go_wp2_with (at_builtin;refine iK _ rfl (.const (.slice none 0 0)) (.tmp 6) 27 rfl w.heap.size 50 i0 _ 2 32 Tryz.underlying27 hi hz0 hz1 hz2 rfl (by decide) (.slice none 0 0) 0 [] rfl (World.ownsRow_nil _ _ _ _) A n c cs rfl hA hsrc h1 (by simp only[maxLen];omega) (by omega) (Nat.le_refl _) ?_;intro v1 w1 hown1 hg1 qP);have hw1:Below w.heap.size w w1:=(Below.refl _ _).grown hg1 (Nat.le_refl _) (by simp[Value.ownBlock]);have HO:Hid (OwnEnts w w1 (λk=>k<w.heap.size) v1 (dQ xs)):=hide (by
  rw[HS.out];exact ⟨_,by rw[HL.out];simpa using hown1,hcs.keep (Same.below hw1)⟩)
 obtain ⟨B,d,hv,hin⟩:=HO.out.sl (λk hk=>Nat.lt_of_lt_of_le hk hw1.size);have HV:=hide hv;have HN:=hide hin;clear hown1 hg1 qP hv hin;go_wp2;go_ret;exact ⟨⟨B,d,by rw[HV.out];rfl,HN.out⟩,hw1⟩
theorem uD.take {C:Int}{l:List Ent}(h:uD C l)(k:Nat):uD C (l.take k):=λx hx=>h x (List.mem_of_mem_take hx)
theorem uD.drop {C:Int}{l:List Ent}(h:uD C l)(k:Nat):uD C (l.drop k):=λx hx=>h x (List.mem_of_mem_drop hx)
theorem zZ (C:Int)(hC0:0<=C)(vN:C<=1099511627776): ∀(N:Nat) (w:World) (A:Option Addr) (n c:Nat) (xs:List Ent),n<=N->n<=1048576->In w A n c xs->uD C xs->
  Calls Tryz.prog 101 #[.slice A n c] w
   λe w'=>(∃B d,e=.returned (.slice B (dQ xs).length d)/\In w' B (dQ xs).length d (dQ xs))/\Below w.heap.size w w'
 | 0,w,A,n,c,xs,hN,hM,hx,hb=>vB w A n c xs hx (by omega)
 |N+1,w,A,n,c,xs,hN,hM,hx,hb=>by
  by_cases hn:n<2
  ·exact vB w A n c xs hx hn
  have ih:=zZ C hC0 vN N;obtain ⟨k,hk⟩: ∃k,n / 2=k:=⟨_,rfl⟩;have hk1:1<=k:=by omega
  have hk2:k<n:=by omega
  have hki:(n:Int) / 2=(k:Int):=by omega
  have HK:=hide hk;have q0:Int.tdiv (n:Int) 2=(k:Int):=by rw[Int.tdiv_eq_ediv_of_nonneg (by omega)];exact hki
  have q1:IntKind.i64.wrap (k:Int)=(k:Int):=IntWalk.i64_in _ (by omega);have q2:(0:Int)<=(k:Int):=by omega
  have q3:(k:Int)<=(n:Int):=by omega
  have q4:(k:Int)<=(c:Int):=by have:=hx.cap;omega
  have q5:(n:Int)<=(c:Int):=by have:=hx.cap;omega
  have hcap:=hx.cap;obtain ⟨b,off,rfl,_,_⟩:=hx.2.2.2.2 (by omega);obtain ⟨A2,hA2⟩: ∃A2,(if c=k then some (⟨b,off,none⟩:Addr) else some ⟨b,off+k*2,none⟩)=A2:=⟨_,rfl⟩;have hL:=hide (Sl.head hx (k:=k) (by omega));have hR:Hid (In w A2 (n-k) (c-k) (xs.drop k)):=hide (by have h:=Sl.tail hx (k:=k) (by omega);rw[Option.map_some,jw]at h;rw[<-hA2];exact h);have HI:=hide ih;clear ih hk;go_enter Tryz.func101,Tryz.ntmps101;go_wp2_with fail;have HB:=hide hb;have HLEN:=hide hx.len;have lt:((xs.take k).length:Int)=k:=by rw[List.length_take,hx.len];omega
  have l1:=pz _ (xs.take k) (Nat.le_refl _);have l2:=pz _ (xs.drop k) (Nat.le_refl _);rw[List.length_drop,hx.len]at l2;have b1:=sI hC0 _ (xs.take k) (Nat.le_refl _) (uD.take hb k);have b2:=sI hC0 _ (xs.drop k) (Nat.le_refl _) (uD.drop hb k);rw[lt]at b1;rw[List.length_drop,hx.len]at b2;have HB1:=hide b1;have HB2:=hide b2;have lk:(dQ (xs.take k)).length<=k:=by omega
  have HQ:=hide (qA (l:=xs) (by rw[hx.len];exact hn));have c1:C*(k:Int)<=1152921504606846976:=Int.le_trans (Int.mul_le_mul vN (show (k:Int)<=1048576 by omega) (by omega) (by omega)) (by omega);have c2:C*((n-k:Nat):Int)<=1152921504606846976:=Int.le_trans (Int.mul_le_mul vN (show ((n-k:Nat):Int)<=1048576 by omega) (by omega) (by omega)) (by omega);have c3:=Int.mul_nonneg hC0 (show (0:Int)<=(k:Int) by omega);have c4:=Int.mul_nonneg hC0 (show (0:Int)<=((n-k:Nat):Int) by omega);have HC:=hide (And.intro c1 (And.intro c2 (And.intro c3 c4)));have HIL:=hide (λ(W:World) (hW:Below w.heap.size w W)=>HI.out W (some ⟨b,off,none⟩) k c (xs.take k) (by omega) (by omega) (In.below hL.out hW) (uD.take HB.out k));have HIR:=hide (λ(W:World) (hW:Below w.heap.size w W)=>HI.out W A2 (n-k) (c-k) (xs.drop k) (by omega) (by omega) (In.below hR.out hW) (uD.drop HB.out k));have HM:=hide (λ(W:World) (B1 B2:Option Addr) (d1 d2:Nat) (h1:In W B1 (dQ (xs.take k)).length d1 (dQ (xs.take k))) (h2:In W B2 (dQ (xs.drop k)).length d2 (dQ (xs.drop k)))=>
   KG W B1 B2 _ _ d1 d2 _ _ h1 h2 (by omega) _ _ HC.out.2.2.1 HC.out.1 HC.out.2.2.2 HC.out.2.1 HB1.out HB2.out)
  clear hb lt b1 b2 c1 c2 c3 c4;go_region_held3 (λw'=>Below w.heap.size w w') (first|exact (Below.refl _ _).drew|exact hs3|exact hs2|exact hs1|go_keep) (first|(go_at_call 101;(with_reducible refine (HIL.out _ ?_).mono ?_);exact (Below.refl _ _).drew;rintro e w1 ⟨⟨B1,d1,rfl,hin1⟩,hb1⟩;have hs1:=((Below.refl w.heap.size w).drew).trans hb1)|(go_at_call 101;(with_reducible refine (HIR.out _ ?_).mono ?_);exact hs1;rintro e w2 ⟨⟨B2,d2,rfl,hin2⟩,hb2⟩;have hs2:=aa hs1 hb2;have hin1':=hin1.below hb2)|(go_at_call 47;(with_reducible refine (HM.out _ _ _ _ _ ?_ ?_).mono ?_);exact hin1';exact hin2;rintro e w3 ⟨⟨v3,rfl,hv3⟩,hb3⟩;have hs3:=aa hs2 hb3));have hq:dQ xs=bW (dQ (xs.take k)) (dQ (xs.drop k)):=by
   have h:=HQ.out;rw[HLEN.out,HK.out]at h;exact h
  obtain ⟨B,d,hv,hin⟩:=hv3.sl (λk hk=>Nat.lt_of_lt_of_le hk hb3.size);have HV:=hide hv;have HN:Hid (In w3 B (dQ xs).length d (dQ xs)):=hide (by rw[hq];exact hin);have HL2:=hide (congrArg List.length hq);clear hv hin hq hv3 hb3 hb2 hb1 hin1 hin1' hin2;go_wp2;go_ret;refine ⟨⟨B,d,?_,HN.out⟩,by first|exact hs3|exact hs3.drew⟩;have e:=HV.out;rw[<-HL2.out]at e;exact congrArg Ending.returned e
theorem Ot {w:World}{base:Nat}{e:TypeId}{size:Nat}{v:Value}{n:Nat}{xs:List Value}(h:w.ownsRow base e size v n xs){g:Nat}(hg:v.ownBlock=some g):dm w e g:=by
 rcases h.2 with ⟨rfl,_⟩|⟨g',cap,cur,rfl,_,hh,_⟩
 ·simp[Value.ownBlock]at hg
 ·simp[Value.ownBlock]at hg;subst hg;exact ⟨cur,hh⟩
def aD (w w':World)(v:Value)(zs:List Ent):Prop:= ∃cs,w'.ownsRow w.heap.size 50 2 v zs.length cs/\Cells w' (New w w' 36) cs zs
theorem Oe {w w0 w1:World}{v:Value}{base n:Nat}{cs:List Value}(hown:w0.ownsRow base 50 2 v n cs)(hs: ∀k,k<w0.heap.size->v.ownBlock≠some k->w1.heap[k]?=w0.heap[k]?):
  Same (New w w0 36) w0 w1/\ ∀k,New w w0 36 k->New w w1 36 k:=by
 have h1:Same (New w w0 36) w0 w1:=λk hk=>hs k hk.2.lt λe=>by
  have h2:=Ot hown e;exact dm.ne h2 hk.2 (by decide) rfl
 refine ⟨h1,λk hk=>⟨hk.1,?_⟩⟩;obtain ⟨c,hc⟩:=hk.2;exact ⟨c,(h1 k hk).trans hc⟩
theorem aD.below {w w' w1:World}{v:Value}{zs:List Ent}(h:aD w w' v zs)(hb:Below w'.heap.size w' w1):aD w w1 v zs:=by
 obtain ⟨cs,h1,h2⟩:=h;refine ⟨cs,ve h1 (λg hg=>hb.block g (h1.lt g hg).2),(h2.keep ((Same.below hb).sub λk hk=>hk.2.lt)).mono λk hk=>⟨hk.1,hk.2.below hb⟩⟩
theorem aD.sl {w w':World}{v:Value}{zs:List Ent}(h:aD w w' v zs): ∃A c,v=.slice A zs.length c/\In w' A zs.length c zs:=by
 obtain ⟨cs,h1,h2⟩:=h;obtain ⟨A,c,e,hs,_⟩:=gP (T:=λk=>k<w'.heap.size) h1 h2 (λk hk=>hk.2.lt) rfl (λg _ hg=>hg.lt);exact ⟨A,c,e,hs⟩
theorem aD.add {w w0 w1:World}{v v1:Value}{zs:List Ent}{cs:List Value}{x:Ent}{A:Option Addr}{n c:Nat}(hown:w0.ownsRow w.heap.size 50 2 v zs.length cs)(hc:Cells w0 (New w w0 36) cs zs)(hx:Sl w0 (New w w0 36) A n c x.row)(h64:eZ x.count)(hs: ∀k,k<w0.heap.size->v.ownBlock≠some k->w1.heap[k]?=w0.heap[k]?)(hown1:w1.ownsRow w.heap.size 50 2 v1 (zs.length+1) (cs++[.slice A n c,.int .i64 x.count])):aD w w1 v1 (zs++[x]):=by
 obtain ⟨h1,h2⟩:=Oe (w:=w) hown hs;have h3:Rep.rd w1 (New w w1 36) [.slice A n c,.int .i64 x.count] x:=⟨A,n,c,rfl,(hx.keep h1).mono h2,h64⟩;exact ⟨_,by rw[List.length_append];exact hown1,Cells.app (Cells.one h3) ((hc.keep h1).mono h2)⟩
theorem qb: ∀{xs:List Val} {w:World} {S:Nat->Prop} {cs:List Value},Cells w S cs xs-> ∀u∈cs,u.oneCell'=true
 | [],_,_,_,h,u,hu=>by rw[show _=[] from h]at hu;cases hu
 |x :: xs,_,_,_,⟨c0,c1,rfl,h0,h1⟩,u,hu=>by
  rcases List.mem_append.1 hu with h|h
  ·have e:c0=x.cells:=h0.1;rw[e]at h;simp[Val.cells]at h;rcases h with rfl|rfl|rfl <;> rfl
  ·exact qb h1 u h
theorem ll: ∀{xs:List Val} {w w':World} {S T:Nat->Prop} {cs:List Value},Cells w S cs xs->Cells w' T cs xs
 | [],_,_,_,_,_,h=>h
 |x :: xs,_,_,_,_,_,⟨c0,c1,e,h0,h1⟩=>⟨c0,c1,e,h0,ll h1⟩
theorem Ht {x:Ent}{l:List Ent}(h:x.count=0):dJ (x :: l)=dJ l:=by simp[dJ,h]
theorem Hu {x:Ent}{l:List Ent}(h:x.count≠0):dJ (x :: l)=x :: dJ l:=by simp[dJ,h]
theorem Io (w:World)(A:Option Addr)(n c:Nat)(xs:List Ent)(hx:In w A n c xs)(hn:n<=1048576)(hrow: ∀x∈xs,x.row.length<=4096):
  Calls Tryz.prog 46 #[.slice A n c] w
   λe w'=>(∃v m zs,e=.returned (.tuple #[v,.int .i64 m])/\aD w w' v zs/\((m=2/\dH 0 xs=true/\zs=[])\/(m=0/\dH 0 xs=false/\zs=dJ xs)))/\Below w.heap.size w w':=by
 obtain ⟨i0,hi,hz0,hz1,hz2⟩:=info_parts oM;obtain ⟨i1,hj,hy0,hy1,hy2⟩:=info_parts lL;have h63:=hx.le;go_enter Tryz.func46,Tryz.ntmps46;go_wp2;go_loopw [4,5] (λo i wr=> ∃(k:Nat) (zs:List Ent),k<=n/\i=.int .i64 k/\zs.length<=k/\dJ xs=zs++dJ (xs.drop k)/\dH 0 xs=dH zs.length (xs.drop k)/\(∃A c,o=.slice A zs.length c)/\aD w wr o zs/\Below w.heap.size w wr)
  (λ_ i _=>n-(intOf i).toNat)
 case atStart=>exact ⟨0,[],Nat.zero_le _,rfl,by simp,by simp,by simp,⟨none,0,rfl⟩,⟨[],World.ownsRow_nil _ _ _ _,rfl⟩,Below.refl _ _⟩
 case round=>
  obtain ⟨k,zs,hk,rfl,hzk,hkeep,NI,⟨A4,c4,rfl⟩,hf,hb⟩:=hrel;have HK:=hide hkeep;have HR:=hide NI;have HF:=hide hf;clear hkeep NI hf;by_cases hlt:k<n
  ·obtain ⟨bl,off,x,rfl,hB,HX,Ax,nx,cx,e0,e1,e2,e3⟩:=hx.ent hlt;replace e0:=ah hb hB e0;replace e1:=ah hb hB e1;have hBr:=Nat.lt_of_lt_of_le hB hb.size;obtain ⟨m1,m2⟩:=e3;have hrx:x.row.length<=4096:=hrow x (List.mem_of_getElem? (bX HX.out).1);have k0:(0:Int)<=(k:Int):=by omega
   have k1:(k:Int)<(n:Int):=by omega
   cases hz:(x.count==0)
   ·have hz':x.count≠0:=by simpa using hz
    by_cases hs:x.count < -65536\/65536<x.count\/zs.length=4096
    ·have HE:Hid (dH 0 xs=true):=hide (by
      rw[HR.out,HX.out,dH,if_neg hz'];rcases hs with h|h|h <;> simp[h])
     by_cases h1:x.count < -65536
     ·have hq:decide ((-65536:Int)<=x.count)=false:=by simp;omega
      go_wp2_with (go_at_call 75;refine (lc _ _).mono ?_;rintro e w' ⟨rfl,rfl⟩);all_goals (try (exfalso;go_light;simp_all;done));go_ret2;exact ⟨⟨_,_,[],rfl,⟨[],World.ownsRow_nil _ _ _ _,rfl⟩,.inl ⟨rfl,HE.out,rfl⟩⟩,hb⟩
     ·by_cases h2:65536<x.count
      ·have hq:decide (x.count<=(65536:Int))=false:=by simp;omega
       go_wp2_with (go_at_call 75;refine (lc _ _).mono ?_;rintro e w' ⟨rfl,rfl⟩);all_goals (try (exfalso;go_light;simp_all;done));go_ret2;exact ⟨⟨_,_,[],rfl,⟨[],World.ownsRow_nil _ _ _ _,rfl⟩,.inl ⟨rfl,HE.out,rfl⟩⟩,hb⟩
      ·have h3:zs.length=4096:=by omega
       have q1:(-65536:Int)<=x.count:=by omega
       have q2:x.count<=(65536:Int):=by omega
       have q3:((zs.length:Int)==4096)=true:=by simp;omega
       clear h3;go_wp2_with (go_at_call 75;refine (lc _ _).mono ?_;rintro e w' ⟨rfl,rfl⟩);all_goals (try (exfalso;go_light;simp_all;done));go_ret2;exact ⟨⟨_,_,[],rfl,⟨[],World.ownsRow_nil _ _ _ _,rfl⟩,.inl ⟨rfl,HE.out,rfl⟩⟩,hb⟩
    ·have q1:(-65536:Int)<=x.count:=by omega
     have q2:x.count<=(65536:Int):=by omega
     have q3:((zs.length:Int)==4096)=false:=by simp;omega
     have HE:Hid (dH 0 xs=dH (zs.length+1) (xs.drop (k+1))):=hide (by
      rw[HR.out,HX.out,dH,if_neg hz'];have a1:¬x.count < -65536:=by omega
      have a2:¬65536<x.count:=by omega
      have a3:¬zs.length=4096:=by omega
      simp[a1,a2,a3])
     have HKK:Hid (dJ xs=(zs++[x])++dJ (xs.drop (k+1))):=hide (by rw[HK.out,HX.out,Hu hz'];simp);obtain ⟨cs,hown,hcells⟩:=HF.out;have HW:=hide hown;have hsz:=hb.size;have HRW:=hide (λg (h:(Value.slice A4 zs.length c4).ownBlock=some g)=>(hown.lt g h).1);have hlen4:=hide (HW.out.1);obtain ⟨rs,hrs,hsrc⟩:=Sl.cells e2;have hAx:Ax=none->nx=0:=λh=>by have:=e2.2.2.2.1 h;have:=e2.2.1;omega
     have hnx:nx<=4096:=by rw[<-e2.len];exact hrx
     have ZE:=qb hrs;have Sy:Hid (∀W,Below w.heap.size w W->Src W 3 Ax nx rs):=hide (λW hW=>⟨hsrc.1,λh0=>by
      obtain ⟨b',o',e,hc⟩:=hsrc.2 h0;refine ⟨b',o',e,λj u hu=>?_⟩;have hcj:=hc j u hu;exact (hW.cell (p:=⟨b',o'+j,none⟩) (block_lt_of_cell hcj)).trans hcj⟩)
     have YX:=hide hrs;have Gx:=hide hcells;clear hown hcells hz' hs hsrc hrs;go_wp2_with (go_at_call 75;refine (lc _ _).mono ?_;rintro e w' ⟨rfl,rfl⟩);all_goals (try (exfalso;go_light;simp_all;done));go_region_held3 (λw'=>w'.cell? ⟨bl,off+k*2,none⟩=some (.slice Ax nx cx)/\w'.cell? ⟨bl,off+k*2+1,none⟩=some (.int .i64 x.count)) (first|exact ⟨e0,e1⟩|exact ⟨(hb2.cell (p:=⟨bl,off+k*2,none⟩) hB).trans e0,(hb2.cell (p:=⟨bl,off+k*2+1,none⟩) hB).trans e1⟩|exact ⟨(hb1.cell (p:=⟨bl,off+k*2,none⟩) hB).trans e0,(hb1.cell (p:=⟨bl,off+k*2+1,none⟩) hB).trans e1⟩|go_keep) (first|(refine dB _ rfl (.const (.slice none 0 0)) (.tmp 35) 23 rfl w.heap.size 36 i1 _ 3 32 Tryz.underlying23 hj hy0 hy1 hy2 rfl (by decide) (.slice none 0 0) 0 [] rfl (World.ownsRow_nil _ _ _ _) Ax nx cx rs (by simp[Act.eval,Act.put]) hAx (by exact Sy.out _ ((hb.drew))) ZE (by simp only[maxLen];omega) (by omega) (by simp;omega) ?_;intro v0 w0 hown0 hg0 Kk;have hb1:Below w.heap.size wr w0:=((Below.refl w.heap.size wr).drew).grown hg0 (by simp;omega) (by simp[Value.ownBlock]);obtain ⟨A0,c0,rfl,hsl0,_⟩:=gP (S:=λ_=>False) (T:=New w w0 36) hown0 (ll YX.out) (λ_ h=>h.elim) (by rw[e2.len];omega) (λg hg ht=>⟨hg,ht⟩);rw[Nat.zero_add]at hsl0;have Sw:=hide hsl0;have hbw0:Below wr.heap.size wr w0:=((Below.refl wr.heap.size wr).drew).grown hg0 (by simp) (by simp[Value.ownBlock]);have hsz0:w.heap.size<=w0.heap.size:=Nat.le_trans hsz hbw0.size;have yz:=hide (ve HW.out (λg hg=>hbw0.block g (HW.out.lt g hg).2));have Yo:=hide ((Gx.out.keep ((Same.below hbw0).sub λk hk=>hk.2.lt)).mono λk (hk:New w wr 36 k)=>(⟨hk.1,hk.2.below hbw0⟩:New w w0 36 k));clear hsl0 hown0 hg0 Kk)|(refine dB _ rfl (.tmp 30) (.tmp 43) 27 rfl w.heap.size 50 i0 _ 2 32 Tryz.underlying27 hi hz0 hz1 hz2 rfl (by decide) (.slice A4 zs.length c4) zs.length cs (by simp[Act.eval,Act.put]) (by first|exact mO (yz.out.alloc _)|exact yz.out.alloc _) (some ⟨w0.heap.size,0,none⟩) 1 1 [.slice A0 nx c0,.int .i64 x.count] (by simp[Act.eval,Act.put]) (by intro h;cases h) (by exact nL (by simp[go_sem]) (by simp[go_sem])) l7 (by simp only[maxLen];omega) (by omega) (by simp;omega) ?_;intro v1 w1 hown1 hg1 qP;have hb2:Below w.heap.size wr w1:=(hb1.trans ((Below.refl w.heap.size w0).alloc hsz0 _)).grown hg1 (by simp;omega) HRW.out));have hf1:aD w w1 v1 (zs++[x]):=aD.add yz.out Yo.out Sw.out ⟨m1,m2⟩ (λk hk hne=>(hg1.block k (by simp;omega) (λe=>hne e.symm)).trans (Below.heap_alloc _ _ _ hk)) hown1;obtain ⟨A1,c1,rfl,_⟩:=hf1.sl;have YA:=hide hf1;have hbw:=hb.trans hb2;clear hf1 hown1 hg1 qP;go_wp2;go_roundw
     case rel=>exact ⟨k+1,zs++[x],by omega,by go_num,by simp;omega,HKK.out,by rw[List.length_append];exact HE.out,⟨_,_,rfl⟩,YA.out,hbw⟩
     case measure=>simp[intOf];omega
   ·have hz':x.count=0:=by simpa using hz
    have HE:Hid (dH 0 xs=dH zs.length (xs.drop (k+1))):=hide (by rw[HR.out,HX.out,dH,if_pos hz']);have HKK:Hid (dJ xs=zs++dJ (xs.drop (k+1))):=hide (by rw[HK.out,HX.out,Ht hz']);go_wp2;all_goals (try (exfalso;go_light;simp_all;done));go_roundw
    case rel=>exact ⟨k+1,zs,by omega,by go_num,by omega,HKK.out,HE.out,⟨_,_,rfl⟩,HF.out,hb⟩
    case measure=>simp[intOf];omega
  ·have hd:=hide (aI hx.len (show n<=k by omega));have HE:Hid (dH 0 xs=false):=hide (by rw[HR.out,hd.out];rfl);have HKK:Hid (zs=dJ xs):=hide (by rw[HK.out,hd.out];simp[dJ]);go_wp2;go_ret2;exact ⟨⟨_,_,zs,rfl,HF.out,.inr ⟨rfl,HE.out,HKK.out⟩⟩,hb⟩
theorem jW {P:List Val->Prop}: ∀n xs ys,xs.length+ys.length<=n->(∀x∈xs,P x.row)->(∀x∈ys,P x.row)-> ∀x∈bW xs ys,P x.row
 | 0,xs,ys,h,_,_=>by
  rw[List.eq_nil_of_length_eq_zero (show xs.length=0 by omega),List.eq_nil_of_length_eq_zero (show ys.length=0 by omega)];intro x hx;cases hx
 |n+1,[],[],_,_,_=>by intro x hx;cases hx
 |n+1,[],y :: ys,h,hx,hy=>by
  rw[l6];have ih:=jW n [] ys (by simp at h⊢;omega) hx (λz hz=>hy z (List.mem_cons_of_mem _ hz));intro z hz;cases hz with
  |head=>exact hy y (List.mem_cons_self ..)
  |tail _ hz=>exact ih z hz
 |n+1,x :: xs,[],h,hx,hy=>by
  rw[nH];have ih:=jW n xs [] (by simp at h⊢;omega) (λz hz=>hx z (List.mem_cons_of_mem _ hz)) hy;intro z hz;cases hz with
  |head=>exact hx x (List.mem_cons_self ..)
  |tail _ hz=>exact ih z hz
 |n+1,x :: xs,y :: ys,h,hx,hy=>by
  have hx1:=hx x (List.mem_cons_self ..);have hy1:=hy y (List.mem_cons_self ..);have i1:=jW n xs (y :: ys) (by simp at h⊢;omega) (λz hz=>hx z (List.mem_cons_of_mem _ hz)) hy;have i2:=jW n (x :: xs) ys (by simp at h⊢;omega) hx (λz hz=>hy z (List.mem_cons_of_mem _ hz));have i3:=jW n xs ys (by simp at h⊢;omega) (λz hz=>hx z (List.mem_cons_of_mem _ hz)) (λz hz=>hy z (List.mem_cons_of_mem _ hz));rw[nG]
  split
  ·intro z hz;cases hz with
   |head=>exact hx1
   |tail _ hz=>exact i1 z hz
  ·split
   ·intro z hz;cases hz with
    |head=>exact hy1
    |tail _ hz=>exact i2 z hz
   ·intro z hz;cases hz with
    |head=>exact hx1
    |tail _ hz=>exact i3 z hz
theorem uw {P:List Val->Prop}: ∀n (l:List Ent),l.length<=n->(∀x∈l,P x.row)-> ∀x∈dQ l,P x.row
 | 0,l,h,_=>by
  rw[List.eq_nil_of_length_eq_zero (show l.length=0 by omega)];intro x hx;cases hx
 |n+1,l,h,hb=>by
  by_cases hl:l.length<2
  ·rw[nK hl];exact hb
  ·rw[qA hl];have h1:(l.take (l.length / 2)).length=l.length / 2:=by rw[List.length_take];omega
   have h2:(l.drop (l.length / 2)).length=l.length-l.length / 2:=by rw[List.length_drop]
   have b1:=uw n (l.take (l.length / 2)) (by omega) (λx hx=>hb x (List.mem_of_mem_take hx));have b2:=uw n (l.drop (l.length / 2)) (by omega) (λx hx=>hb x (List.mem_of_mem_drop hx));exact jW _ _ _ (Nat.le_refl _) b1 b2
theorem aD.base {w w0 w1:World}{v:Value}{zs:List Ent}(h:aD w0 w1 v zs)(hb:w.heap.size<=w0.heap.size):aD w w1 v zs:=by
 obtain ⟨cs,h1,h2⟩:=h;refine ⟨cs,⟨h1.1,?_⟩,h2.mono λk hk=>⟨Nat.le_trans hb hk.1,hk.2⟩⟩;rcases h1.2 with h|⟨g,cap,cur,e,hg,r⟩
 ·exact .inl h
 ·exact .inr ⟨g,cap,cur,e,Nat.le_trans hb hg,r⟩
def GH (xs:List Ent)(m:Int)(zs:List Ent):Prop:=(m=2/\dH 0 (dQ xs)=true/\zs=[])\/(m=0/\dH 0 (dQ xs)=false/\zs=dJ (dQ xs))
theorem Q9 (w:World)(A:Option Addr)(n c:Nat)(xs:List Ent)(hx:In w A n c xs)(hn:n<=1048576)(hb:uD 65536 xs)(hrow: ∀x∈xs,x.row.length<=12):
  Calls Tryz.prog 73 #[.slice A n c] w
   λe w'=>(∃v m zs,e=.returned (.tuple #[v,.int .i64 m])/\aD w w' v zs/\GH xs m zs)/\Below w.heap.size w w':=by
 have h63:=hx.le;have hlen:=hide hx.len;have hs:=zZ 65536 (by omega) (by omega) n w A n c xs (Nat.le_refl _) hn hx hb;have hl:=pz _ xs (Nat.le_refl _);rw[hx.len]at hl;have hr:=hide (uw (P:=λl=>l.length<=4096) _ xs (Nat.le_refl _) (λx hx=>Nat.le_trans (hrow x hx) (by omega)));clear hrow hb;go_enter Tryz.func73,Tryz.ntmps73;go_wp2_with fail;refine hs.mono ?_;rintro e w1 ⟨⟨B,d,rfl,hin⟩,hb1⟩;go_wp2_with fail;refine (Io w1 B _ d (dQ xs) hin (by omega) hr.out).mono ?_;rintro e w2 ⟨⟨v,m,zs,rfl,hf,hm⟩,hb2⟩;have hbb:=aa hb1 hb2;have HF:=hide (hf.base hb1.size);have HM:Hid (GH xs m zs):=hide hm;clear hf hm hin;go_wp2;go_ret2;exact ⟨⟨_,_,zs,rfl,HF.out,HM.out⟩,hbb⟩
def yB (xs:List Ent)(m:Int)(zs:List Ent):Prop:=
 (ai (λ_ x=>aV x) 0 xs≠0/\m=ai (λ_ x=>aV x) 0 xs/\zs=[])\/(ai (λ_ x=>aV x) 0 xs=0/\GH xs m zs)
theorem EY: ∀{xs:List Ent} {k:Nat},ai (λ_ x=>aV x) k xs=0->uD 65536 xs/\ ∀x∈xs,x.row.length<=12
 | [],_,_=>⟨(λx h=>by cases h),(λx h=>by cases h)⟩
 |x :: xs,k,h=>by
  have h0:aV x=0:=by
   rw[ai]at h;by_cases he:aV x=0
   ·exact he
   ·rw[if_pos he]at h;exact h
  rw[aY h0]at h;obtain ⟨i1,i2⟩:=EY h;rw[mF]at h0;have h1:¬(12<x.row.length\/x.count < -65536\/65536<x.count):=λe=>by rw[if_pos e]at h0;omega
  refine ⟨λz hz=>?_,λz hz=>?_⟩
  ·cases hz with
   |head=>omega
   |tail _ hz=>exact i1 z hz
  ·cases hz with
   |head=>omega
   |tail _ hz=>exact i2 z hz
theorem Bw (w:World)(A:Option Addr)(n c:Nat)(xs:List Ent)(hx:In w A n c xs)(hn:n<=1048576):
  Calls Tryz.prog 44 #[.slice A n c] w
   λe w'=>(∃v m zs,e=.returned (.tuple #[v,.int .i64 m])/\aD w w' v zs/\yB xs m zs)/\Below w.heap.size w w':=by
 have h63:=hx.le;have hlen:=hide hx.len;go_enter Tryz.func44,Tryz.ntmps44;go_wp2;go_loopw [4] (λi wr=> ∃k:Nat,k<=n/\i=.int .i64 k/\ai (λ_ x=>aV x) 0 xs=ai (λ_ x=>aV x) k (xs.drop k)/\Below w.heap.size w wr) (λi _=>n-(intOf i).toNat)
 case atStart=>exact ⟨0,Nat.zero_le _,rfl,rfl,Below.refl _ _⟩
 case round=>
  obtain ⟨k,hk,rfl,heq,hb⟩:=hrel;have HE:=hide heq;clear heq;by_cases hlt:k<n
  ·obtain ⟨b,off,x,rfl,hB,HX,A2,n2,c2,f0,f1,f2,f3⟩:=(hx.below hb).ent hlt;have f3':=hide f3;go_wp2_with fail;refine (Cj wr A2 n2 c2 x f2 f3'.out).mono ?_;rintro e w1 ⟨rfl,hb1⟩;have hbb:=aa hb hb1;clear hb1 f0 f1 f2;by_cases hv:aV x=0
   ·have HR:Hid (ai (λ_ x=>aV x) 0 xs=ai (λ_ x=>aV x) (k+1) (xs.drop (k+1))):=hide (by rw[HE.out,HX.out];exact aY hv);rw[hv];go_wp2;go_roundw
    case rel=>exact ⟨k+1,by omega,by go_num,HR.out,hbb⟩
    case measure=>simp[intOf];omega
   ·have HR:Hid (ai (λ_ x=>aV x) 0 xs=aV x):=hide (by rw[HE.out,HX.out];exact aK rfl hv);have hv':(aV x==0)=false:=by simpa using hv
    generalize aV x=m at*;go_wp2;all_goals (try (exfalso;go_light;simp_all;done));go_ret2;exact ⟨⟨_,_,[],rfl,⟨[],World.ownsRow_nil _ _ _ _,rfl⟩,.inl ⟨by rw[HR.out];exact hv,HR.out.symm,rfl⟩⟩,hbb⟩
  ·have HR:Hid (ai (λ_ x=>aV x) 0 xs=0):=hide (by rw[HE.out,aI hx.len (by omega),ai]);have hfit:=hide (EY HR.out);have hin:=hide (hx.below hb);go_wp2_with fail;refine (Q9 wr A n c xs hin.out hn hfit.out.1 hfit.out.2).mono ?_;rintro e w2 ⟨⟨v,m,zs,rfl,hf,hm⟩,hb2⟩;have hbb:=aa hb hb2;have HF:=hide (hf.base hb.size);have HM:=hide hm;clear hf hm;go_wp2;go_ret2;exact ⟨⟨_,_,zs,rfl,HF.out,.inr ⟨HR.out,HM.out⟩⟩,hbb⟩
end Go.Proofs.YtopjjlmfilgngaaGreatDoor
