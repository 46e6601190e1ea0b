/-
  warehouseref22.SameRow, SameEntries; warehouselaw22.sameParts; warehouseworld.Within. warehouseref6.sorted. warehouseref6.result: the entries with counts that are not 0, with rows in new memory. warehouseref6.Sum and Normalize.
-/
import Derived.Test.YthnelebakkggjaaGreatDoorGai
import Derived.Test.YthnelebakkggjaaGreatDoorMerge
namespace Go.Proofs.YthnelebakkggjaaGreatDoor
set_option maxHeartbeats 4000000
set_option maxRecDepth 100000
open Go.RowKit
set_option linter.unusedSimpArgs false
set_option linter.unusedVariables false
theorem Bq {α:Type}{xs a:List α}{k:Nat}{x:α}{l m:List α}(h:xs.take k=a.take k)(b:xs.drop k=x::l)(c:a.drop k=x::m):xs.take (k+1)=a.take (k+1):=by
 rw[gJ b,gJ c,h]
theorem DX {α:Type}{xs a:List α}{n:Nat}(h:xs.take n=a.take n)(b:xs.length=n)(c:a.length=n):xs=a:=by
 rw[List.take_of_length_le Ho,List.take_of_length_le Ho]at h;exact h
theorem BI {α:Type}{xs b:List α}{k:Nat}{x y:α}{l m:List α}(a:xs.drop k=x::l)(d:b.drop k=y::m)(c:x≠y):xs≠b:=λe=>by
 rw[e,d]at a;injection a with a;exact c a.symm
theorem MX {a b c d:Int}{s t:ByteArray}:(⟨a,c,s⟩:Val)=⟨b,d,t⟩↔a=b/\c=d/\s=t:=by
 constructor
 ·intro h;injection h with h1 h2 h3;exact⟨h1,h2,h3⟩
 ·rintro⟨rfl,rfl,rfl⟩;rfl
theorem Ld (w:World)(a c b d:Int)(s e:ByteArray):(binOp .neq 67 (.agg #[.int .i64 a,.int .i64 b,.string s]) (.agg #[.int .i64 c,.int .i64 d,.string e])).run Tryz.prog w=.ok (.bool (!(a==c&&b==d&&s.toList==e.toList))) w:=by
 have m:=Tryz.underlying3;have n:=Tryz.underlying9;have k:=Tryz.isAgg3;have l:=Tryz.isAgg9;have o:=Tryz.sizeOf3;have p:=Tryz.sizeOf9;have i:Tryz.prog.underlying 67=some (.struct (Tryz.prog.fieldsOf 67)):=by kernel_rfl
 have j:Tryz.prog.stoodInHeld 67=false:=by kernel_rfl
 rw[run_neq_struct,show(10000:Nat)=9999+1 from rfl,run_equalIn_agg w 9999 67 _ _ i j];simp only[Program.fieldsOf,Tryz.underlying67];go_simp;by_cases f:a=c<;>by_cases g:b=d<;>by_cases h:s.toList=e.toList<;>simp[f,g,h]
theorem Lm {a a' b b':Int}{s s':ByteArray}:(a==a'&&b==b'&&s.toList==s'.toList)=true↔(⟨a,b,s⟩:Val)=⟨a',b',s'⟩:=by
 rw[MX,Bool.and_eq_true,Bool.and_eq_true,beq_iff_eq,beq_iff_eq,beq_iff_eq,and_assoc,ByteArray.toList_eq,ByteArray.toList_eq];constructor
 ·rintro⟨d,e,c⟩;refine⟨d,e,?_⟩;obtain⟨⟨x⟩⟩:=s;obtain⟨⟨y⟩⟩:=s';simp at c;rw[c]
 ·rintro⟨rfl,rfl,rfl⟩;exact⟨rfl,rfl,rfl⟩
theorem uf (w:World)(A E:Option Addr)(n l c c2:Nat)(xs g:List Val)(t:In w A n c xs)(N:In w E l c2 g):
  Calls Tryz.prog 31 #[.slice A n c,.slice E l c2] w λe w'=>(∃r,e=.returned (.bool r)/\(r=true↔xs=g))/\Below w.heap.size w w':=by
 have Y:=t.le;have hm:Tryz.prog.eqGuardType Tryz.prog.depth 67=false:=by kernel_rfl
 have K:=Hm t.len;have L:=Hm N.len;by_cases p:n=l
 ·subst p;go_enter Tryz.func31,Tryz.ntmps31;go_wp2;all_goals(try(exfalso;go_light;simp_all;done));go_loopw [5] (λi wr=> ∃k:Nat,k<=n/\i=.int .i64 k/\xs.take k=g.take k/\Below w.heap.size w wr) (λi _=>n-(intOf i).toNat)
  case atStart=>exact⟨0,Nat.zero_le _,rfl,rfl,IJ⟩
  case round=>
   obtain⟨k,hk,rfl,I,hb⟩:=hrel;have F:=Hm I;have m:=Hm hb;clear I;by_cases J:k<n
   ·obtain⟨b,off,x,rfl,Z,G,Q,R,S,V⟩:=(t.b hb).val J;obtain⟨P,ab,y,rfl,aa,H,T,f1,U,X⟩:=(N.b hb).val J;have k0:(0:Int)<=(k:Int):=by omega
    have k1:(k:Int)<(n:Int):=by omega
    obtain⟨u,v,z⟩:=x;obtain⟨B,C,D⟩:=y;simp only at Q R S T f1 U;have j:=Hm (Lm (a:=u) (a':=B) (b:=v) (b':=C) (s:=z) (s':=D));have O:=λW=>Ld W u B v C z D;cases f:(u==B&&v==C&&z.toList==D.toList)
    ·have d:Hl (xs≠g):=Hm (BI G.o H.o λe=>by rw[j.o.2 e]at f;cases f);rw[f]at O;clear f j;go_wp2;go_quiet (fail);go_wp2;go_ret;exact⟨⟨false,rfl,(λh=>by cases h),λh=>absurd h d.o⟩,ib m.o⟩
    ·have M:=j.o.1 f;rw[f]at O;have d:Hl (xs.take (k+1)=g.take (k+1)):=Hm (Bq F.o G.o (by rw[M];exact H.o));clear f j M;go_wp2;go_quiet (fail);go_wp2;go_roundw
     case rel=>exact⟨k+1,Ho,by go_num,d.o,ib m.o⟩
     case measure=>simp[intOf];omega
   ·have d:=Hm (DX (n:=k) F.o (by rw[K.o];omega) (by rw[L.o];omega));go_wp2;go_ret;exact⟨⟨true,rfl,λ_=>d.o,λ_=>rfl⟩,m.o⟩
 ·have d:Hl (xs≠g):=Hm λe=>p (by rw[<-K.o,<-L.o,e]);have q:((n:Int) != (l:Int))=true:=by simp;omega
  clear p;go_enter Tryz.func31,Tryz.ntmps31;go_wp2;all_goals(try(exfalso;go_light;simp_all;done));go_ret;exact⟨⟨false,rfl,(λh=>by cases h),λh=>absurd h d.o⟩,IJ⟩
theorem EF {r c:List Val}{a b:Int}:(⟨r,a⟩:Ent)=⟨c,b⟩↔r=c/\a=b:=by
 constructor
 ·intro h;injection h with h1 h2;exact⟨h1,h2⟩
 ·rintro⟨rfl,rfl⟩;rfl
theorem sj (w:World)(A B:Option Addr)(n j c c2:Nat)(xs d:List Ent)(z:In w A n c xs)(T:In w B j c2 d):
  Calls Tryz.prog 13 #[.slice A n c,.slice B j c2] w λe w'=>(∃r,e=.returned (.bool r)/\(r=true↔xs=d))/\Below w.heap.size w w':=by
 have ac:=z.le;have Q:=Hm z.len;have R:=Hm T.len;by_cases v:n=j
 ·subst v;go_enter Tryz.func13,Tryz.ntmps13;go_wp2;all_goals(try(exfalso;go_light;simp_all;done));go_loopw [5] (λi wr=> ∃k:Nat,k<=n/\i=.int .i64 k/\xs.take k=d.take k/\Below w.heap.size w wr) (λi _=>n-(intOf i).toNat)
  case atStart=>exact⟨0,Nat.zero_le _,rfl,rfl,IJ⟩
  case round=>
   obtain⟨k,hk,rfl,O,hb⟩:=hrel;have G:=Hm O;have p:=Hm hb;clear O;by_cases P:k<n
   ·obtain⟨b,off,x,rfl,hB,s,A3,n3,c3,J,u,K,e3⟩:=(z.b hb).ent P;obtain⟨I,U,y,rfl,ab,t,C,n4,c4,L,f1,M,f3⟩:=(T.b hb).ent P;have k0:(0:Int)<=(k:Int):=by omega
    have k1:(k:Int)<(n:Int):=by omega
    have W:=Hm J;have X:=Hm u;have Y:=Hm L;have Z:=Hm f1;have E:=Hm hB;have F:=Hm ab;obtain⟨xr,l⟩:=x;obtain⟨yr,m⟩:=y;simp only at u f1 K M;by_cases f:l=m
    ·have q:(l != m)=false:=by simp[f]
     have aa:=Hm f;clear f;go_wp2;go_region_held3 (λV=>V.cell? ⟨b,off+k*2,none⟩=some (.slice A3 n3 c3)/\V.cell? ⟨b,off+k*2+1,none⟩=some (.int .i64 l)/\V.cell? ⟨I,U+k*2,none⟩=some (.slice C n4 c4)/\V.cell? ⟨I,U+k*2+1,none⟩=some (.int .i64 m))
      (first|exact⟨J,u,L,f1⟩|exact⟨eG g.o E.o W.o,eG g.o E.o X.o,eG g.o F.o Y.o,eG g.o F.o Z.o⟩)
      (first|(go_at_call 31;refine(uf _ A3 C n3 n4 c3 c4 xr yr (by exact K.b (IJ).drew) (by exact M.b (IJ).drew)).mono ?_;rintro e w2 ⟨⟨r,rfl,S⟩,N⟩;have H:=Hm S;have g:=Hm (eF N);clear N S))
     have D:=Hm (eu p.o g.o);cases r
     ·have a:Hl (xs≠d):=Hm (BI s.o t.o λe=>by have:=H.o.2 (EF.1 e).1;cases this);go_wp2;all_goals(try(exfalso;go_light;simp_all;done));go_ret;exact⟨⟨false,rfl,(λh=>by cases h),λh=>absurd h a.o⟩,D.o⟩
     ·have a:Hl (xs.take (k+1)=d.take (k+1)):=Hm (Bq G.o s.o (by rw[EF.2 ⟨H.o.1 rfl,aa.o⟩];exact t.o));go_wp2;all_goals(try(exfalso;go_light;simp_all;done));go_roundw
      case rel=>exact⟨k+1,Ho,by go_num,a.o,D.o⟩
      case measure=>simp[intOf];omega
    ·have a:Hl (xs≠d):=Hm (BI s.o t.o λe=>f (EF.1 e).2);have q:(l != m)=true:=by simpa using f
     clear f;go_wp2;go_quiet (fail);go_wp2;all_goals(try(exfalso;go_light;simp_all;done));go_ret;exact⟨⟨false,rfl,(λh=>by cases h),λh=>absurd h a.o⟩,ib p.o⟩
   ·have a:=Hm (DX (n:=k) G.o (by rw[Q.o];omega) (by rw[R.o];omega));go_wp2;go_ret;exact⟨⟨true,rfl,λ_=>a.o,λ_=>rfl⟩,p.o⟩
 ·have a:Hl (xs≠d):=Hm λe=>v (by rw[<-Q.o,<-R.o,e]);have q:((n:Int) != (j:Int))=true:=by simp;omega
  clear v;go_enter Tryz.func13,Tryz.ntmps13;go_wp2;all_goals(try(exfalso;go_light;simp_all;done));go_ret;exact⟨⟨false,rfl,(λh=>by cases h),λh=>absurd h a.o⟩,IJ⟩
theorem cells_one: ∀{xs:List Ent} {w:World} {S:Nat->Prop} {a:List Value},Cells w S a xs-> ∀u∈a,u.oneCell'=true
 | [],_,_,_,h,u,hu=>by rw[show _=[] from h]at hu;cases hu
 |x::xs,_,_,_,⟨c0,c1,rfl,h0,h1⟩,u,hu=>by
  rcases List.mem_append.1 hu with h|h
  ·obtain⟨A,n,c,e,_,_⟩:=h0;rw[e]at h;exact pJ u h
  ·exact cells_one h1 u h
theorem Sl.head {α:Type}[Rep α]{w:World}{S:Nat->Prop}{A:Option Addr}{n c k:Nat}{xs:List α}(h:Sl w S A n c xs)(d:k<=n):Sl w S A k c (xs.take k):=by
 refine⟨by rw[List.length_take,h.1];omega,by have:=h.2.1;omega,h.2.2.1,h.2.2.2.1,λf=>?_⟩;obtain⟨b,off,e,hb,hi⟩:=h.2.2.2.2 Ho;refine⟨b,off,e,hb,λi a=>?_⟩;rw[List.length_take]at a;rw[List.getElem_take];exact hi i Ho
theorem OwnEnts.sl {w w':World}{S:Nat->Prop}{v:Value}{zs:List Ent}(h:OwnEnts w w' S v zs)(d: ∀k,S k->k<w'.heap.size): ∃A c,v=.slice A zs.length c/\In w' A zs.length c zs:=by
 obtain⟨i,a,b⟩:=h.own;obtain⟨A,c,e,hs,_⟩:=jZ (T:=λk=>k<w'.heap.size) a b d rfl (λg _ f=>f.lt);exact⟨A,c,e,hs⟩
theorem vX (w:World)(A:Option Addr)(n c:Nat)(xs:List Ent)(a:In w A n c xs)(E:n<2):
  Calls Tryz.prog 112 #[.slice A n c] w
   λe w'=>(∃B d,e=.returned (.slice B (iO xs).length d)/\In w' B (iO xs).length d (iO xs))/\Below w.heap.size w w':=by
 obtain⟨J,hi,G,H,I⟩:=info_parts q8;obtain⟨x,g,F⟩:=Sl.cells a;have r:=Hm a.len;have z:A=none->n=0:=λh=>by have:=a.2.2.2.1 h;have:=a.2.1;omega
 have y:=cells_one g;have u:=Hm (qE (l:=xs) (by rw[a.len];exact E));go_enter Tryz.func112,Tryz.ntmps112;go_wp2_with (at_builtin;refine lI _ rfl (.const (.slice none 0 0)) (.tmp 6) 30 rfl w.heap.size 55 J _ 2 32 Tryz.underlying30 hi G H I rfl (by decide) (.slice none 0 0) 0 [] rfl (World.ownsRow_nil _ _ _ _) A n c x rfl z F y (by simp only[maxLen];omega) Ho IK ?_;intro K q m i C);have f:Below w.heap.size w q:=(IJ).grown i IK (by simp[Value.ownBlock]);have t:Hl (OwnEnts w q (λk=>k<w.heap.size) K (iO xs)):=Hm (by
  rw[u.o];exact⟨_,by rw[r.o];simpa using m,g.keep (Same.b f)⟩)
 obtain⟨B,d,p,j⟩:=t.o.sl (λk D=>Nat.lt_of_lt_of_le D f.size);have v:=Hm p;have s:=Hm j;clear m i C p j;go_wp2;go_ret;exact⟨⟨B,d,by rw[v.o];rfl,s.o⟩,f⟩
theorem uE.take {C:Int}{l:List Ent}(h:uE C l)(k:Nat):uE C (l.take k):=λx a=>h x (List.mem_of_mem_take a)
theorem uE.drop {C:Int}{l:List Ent}(h:uE C l)(k:Nat):uE C (l.drop k):=λx a=>h x (List.mem_of_mem_drop a)
theorem zB (C:Int)(a:0<=C)(r:C<=1099511627776): ∀(N:Nat) (w:World) (A:Option Addr) (n c:Nat) (xs:List Ent),n<=N->n<=1048576->In w A n c xs->uE C xs->
  Calls Tryz.prog 112 #[.slice A n c] w
   λe w'=>(∃B d,e=.returned (.slice B (iO xs).length d)/\In w' B (iO xs).length d (iO xs))/\Below w.heap.size w w'
 | 0,w,A,n,c,xs,hN,hM,hx,hb=>vX w A n c xs hx Ho
 |N+1,w,A,n,c,xs,hN,hM,hx,hb=>by
  by_cases J:n<2
  ·exact vX w A n c xs hx J
  have O:=zB C a r N;obtain⟨k,i⟩: ∃k,n / 2=k:=⟨_,rfl⟩;have ad:1<=k:=by omega
  have ae:k<n:=by omega
  have ab:(n:Int) / 2=(k:Int):=by omega
  have T:=Hm i;have q0:Int.tdiv (n:Int) 2=(k:Int):=by rw[Int.tdiv_eq_ediv_of_nonneg Ho];exact ab
  have q1:IntKind.i64.wrap (k:Int)=(k:Int):=IntWalk.i64_in _ Ho;have q2:(0:Int)<=(k:Int):=by omega
  have q3:(k:Int)<=(n:Int):=by omega
  have q4:(k:Int)<=(c:Int):=by have:=hx.cap;omega
  have q5:(n:Int)<=(c:Int):=by have:=hx.cap;omega
  have ac:=hx.cap;obtain⟨b,off,rfl,_,_⟩:=hx.2.2.2.2 Ho;obtain⟨f,aa⟩: ∃f,(if c=k then some (⟨b,off,none⟩:Addr) else some ⟨b,off+k*2,none⟩)=f:=⟨_,rfl⟩;have hL:=Hm (Sl.head hx (k:=k) Ho);have hR:Hl (In w f (n-k) (c-k) (xs.drop k)):=Hm (by have h:=Sl.tail hx (k:=k) Ho;rw[Option.map_some,jv]at h;rw[<-aa];exact h);have D:=Hm O;clear O i;go_enter Tryz.func112,Tryz.ntmps112;go_wp2_with fail;have z:=Hm hb;have V:=Hm hx.len;have lt:((xs.take k).length:Int)=k:=by rw[List.length_take,hx.len];omega
  have l1:=rA _ (xs.take k) IK;have l2:=rA _ (xs.drop k) IK;rw[List.length_drop,hx.len]at l2;have b1:=uz a _ (xs.take k) IK (uE.take hb k);have b2:=uz a _ (xs.drop k) IK (uE.drop hb k);rw[lt]at b1;rw[List.length_drop,hx.len]at b2;have P:=Hm b1;have Q:=Hm b2;have lk:(iO (xs.take k)).length<=k:=by omega
  have Z:=Hm (sw (l:=xs) (by rw[hx.len];exact J));have c1:C*(k:Int)<=1152921504606846976:=Int.le_trans (Int.mul_le_mul r (show(k:Int)<=1048576 by omega) Ho Ho) Ho;have c2:C*((n-k:Nat):Int)<=1152921504606846976:=Int.le_trans (Int.mul_le_mul r (show((n-k:Nat):Int)<=1048576 by omega) Ho Ho) Ho;have c3:=Int.mul_nonneg a (show(0:Int)<=(k:Int) by omega);have c4:=Int.mul_nonneg a (show(0:Int)<=((n-k:Nat):Int) by omega);have g:=Hm (And.intro c1 (And.intro c2 (And.intro c3 c4)));have R:=Hm (λ(W:World) (s:Below w.heap.size w W)=>D.o W (some ⟨b,off,none⟩) k c (xs.take k) Ho Ho (In.b hL.o s) (uE.take z.o k));have S:=Hm (λ(W:World) (s:Below w.heap.size w W)=>D.o W f (n-k) (c-k) (xs.drop k) Ho Ho (In.b hR.o s) (uE.drop z.o k));have X:=Hm (λ(W:World) (j m:Option Addr) (p q:Nat) (h1:In W j (iO (xs.take k)).length p (iO (xs.take k))) (h2:In W m (iO (xs.drop k)).length q (iO (xs.drop k)))=>
   GZ W j m _ _ p q _ _ h1 h2 Ho _ _ g.o.2.2.1 g.o.1 g.o.2.2.2 g.o.2.1 P.o Q.o)
  clear hb lt b1 b2 c1 c2 c3 c4;go_region_held3 (λw'=>Below w.heap.size w w') (first|exact(IJ).drew|exact y|exact K|exact x|go_keep) (first|(go_at_call 112;(with_reducible refine(R.o _ ?_).mono ?_);exact(IJ).drew;rintro e w1 ⟨⟨j,p,rfl,G⟩,E⟩;have x:=((Below.refl w.heap.size w).drew).trans E)|(go_at_call 112;(with_reducible refine(S.o _ ?_).mono ?_);exact x;rintro e w2 ⟨⟨m,q,rfl,I⟩,t⟩;have K:=eu x t;have H:=G.b t)|(go_at_call 49;(with_reducible refine(X.o _ _ _ _ _ ?_ ?_).mono ?_);exact H;exact I;rintro e w3 ⟨⟨v3,rfl,M⟩,u⟩;have y:=eu K u));have v:iO xs=fK (iO (xs.take k)) (iO (xs.drop k)):=by
   have h:=Z.o;rw[V.o,T.o]at h;exact h
  obtain⟨B,d,L,F⟩:=M.sl (λk i=>Nat.lt_of_lt_of_le i u.size);have HV:=Hm L;have Y:Hl (In w3 B (iO xs).length d (iO xs)):=Hm (by rw[v];exact F);have U:=Hm (congrArg List.length v);clear L F v M u t E G H I;go_wp2;go_ret;refine⟨⟨B,d,?_,Y.o⟩,by first|exact y|exact y.drew⟩;have e:=HV.o;rw[<-U.o]at e;exact congrArg Ending.returned e
theorem Jt {w:World}{base:Nat}{e:TypeId}{size:Nat}{v:Value}{n:Nat}{xs:List Value}(h:w.ownsRow base e size v n xs){g:Nat}(a:v.ownBlock=some g):jQ w e g:=by
 rcases h.2 with ⟨rfl,_⟩|⟨d,cap,b,rfl,_,c,_⟩
 ·simp[Value.ownBlock]at a
 ·simp[Value.ownBlock]at a;subst a;exact⟨b,c⟩
def fw (w w':World)(v:Value)(zs:List Ent):Prop:= ∃a,w'.ownsRow w.heap.size 55 2 v zs.length a/\Cells w' (New w w' 67) a zs
theorem Jm {w a d:World}{v:Value}{base n:Nat}{g:List Value}(j:a.ownsRow base 55 2 v n g)(hs: ∀k,k<a.heap.size->v.ownBlock≠some k->d.heap[k]?=a.heap[k]?):
  Same (New w a 67) a d/\ ∀k,New w a 67 k->New w d 67 k:=by
 have f:Same (New w a 67) a d:=λk b=>hs k b.2.lt λe=>by
  have h:=Jt j e;exact jQ.ne h b.2 (by decide) rfl
 refine⟨f,λk b=>⟨b.1,?_⟩⟩;obtain⟨c,i⟩:=b.2;exact⟨c,(f k b).trans i⟩
theorem fw.b {w w' d:World}{v:Value}{zs:List Ent}(h:fw w w' v zs)(hb:Below w'.heap.size w' d):fw w d v zs:=by
 obtain⟨e,c,f⟩:=h;refine⟨e,vR c (λg i=>hb.block g (c.lt g i).2),(f.keep ((Same.b hb).sub λk a=>a.2.lt)).mono λk a=>⟨a.1,a.2.b hb⟩⟩
theorem fw.sl {w w':World}{v:Value}{zs:List Ent}(h:fw w w' v zs): ∃A c,v=.slice A zs.length c/\In w' A zs.length c zs:=by
 obtain⟨i,a,b⟩:=h;obtain⟨A,c,e,hs,_⟩:=jZ (T:=λk=>k<w'.heap.size) a b (λk f=>f.2.lt) rfl (λg _ d=>d.lt);exact⟨A,c,e,hs⟩
theorem fw.add {w a b:World}{v g:Value}{zs:List Ent}{d:List Value}{x:Ent}{A:Option Addr}{n c:Nat}(l:a.ownsRow w.heap.size 55 2 v zs.length d)(j:Cells a (New w a 67) d zs)(o:Sl a (New w a 67) A n c x.row)(i:jP x.count)(hs: ∀k,k<a.heap.size->v.ownBlock≠some k->b.heap[k]?=a.heap[k]?)(m:b.ownsRow w.heap.size 55 2 g (zs.length+1) (d++[.slice A n c,.int .i64 x.count])):fw w b g (zs++[x]):=by
 obtain⟨e,f⟩:=Jm (w:=w) l hs;have h:Rep.rd b (New w b 67) [.slice A n c,.int .i64 x.count] x:=⟨A,n,c,rfl,(o.keep e).mono f,i⟩;exact⟨_,by rw[List.length_append];exact m,Cells.app (Cells.one h) ((j.keep e).mono f)⟩
theorem rM: ∀{xs:List Val} {w:World} {S:Nat->Prop} {a:List Value},Cells w S a xs-> ∀u∈a,u.oneCell'=true
 | [],_,_,_,h,u,hu=>by rw[show _=[] from h]at hu;cases hu
 |x::xs,_,_,_,⟨c0,c1,rfl,h0,h1⟩,u,hu=>by
  rcases List.mem_append.1 hu with h|h
  ·have e:c0=x.cells:=h0.1;rw[e]at h;simp[Val.cells]at h;rcases h with rfl|rfl|rfl<;>rfl
  ·exact rM h1 u h
theorem oC: ∀{xs:List Val} {w w':World} {S T:Nat->Prop} {a:List Value},Cells w S a xs->Cells w' T a xs
 | [],_,_,_,_,_,h=>h
 |x::xs,_,_,_,_,_,⟨c0,c1,e,h0,h1⟩=>⟨c0,c1,e,h0,oC h1⟩
theorem EO {x:Ent}{l:List Ent}(h:x.count=0):iE (x::l)=iE l:=by simp[iE,h]
theorem EP {x:Ent}{l:List Ent}(h:x.count≠0):iE (x::l)=x::iE l:=by simp[iE,h]
theorem Fv (w:World)(A:Option Addr)(n c:Nat)(xs:List Ent)(X:In w A n c xs)(hn:n<=1048576)(aw: ∀x∈xs,x.row.length<=4096):
  Calls Tryz.prog 48 #[.slice A n c] w
   λe w'=>(∃v m zs,e=.returned (.tuple #[v,.int .i64 m])/\fw w w' v zs/\((m=2/\iN 0 xs=true/\zs=[])\/(m=0/\iN 0 xs=false/\zs=iE xs)))/\Below w.heap.size w w':=by
 obtain⟨i0,hi,aD,aE,aF⟩:=info_parts q8;obtain⟨i1,hj,aA,aB,aC⟩:=info_parts oO;have aG:=X.le;go_enter Tryz.func48,Tryz.ntmps48;go_wp2;go_loopw [4,5] (λo i wr=> ∃(k:Nat) (zs:List Ent),k<=n/\i=.int .i64 k/\zs.length<=k/\iE xs=zs++iE (xs.drop k)/\iN 0 xs=iN zs.length (xs.drop k)/\(∃A c,o=.slice A zs.length c)/\fw w wr o zs/\Below w.heap.size w wr)
  (λ_ i _=>n-(intOf i).toNat)
 case atStart=>exact⟨0,[],Nat.zero_le _,rfl,by simp,by simp,by simp,⟨none,0,rfl⟩,⟨[],World.ownsRow_nil _ _ _ _,rfl⟩,IJ⟩
 case round=>
  obtain⟨k,zs,f,rfl,aK,ad,ac,⟨Y,c4,rfl⟩,hf,hb⟩:=hrel;have H:=Hm ad;have E:=Hm ac;have G:=Hm hf;clear ad ac hf;by_cases au:k<n
  ·obtain⟨s,off,x,rfl,d,r,D,t,cx,z,B,C,e3⟩:=X.ent au;replace z:=eG hb d z;replace B:=eG hb d B;have aH:=Nat.lt_of_lt_of_le d hb.size;obtain⟨m1,m2⟩:=e3;have ax:x.row.length<=4096:=aw x (List.mem_of_getElem? (iI r.o).1);have k0:(0:Int)<=(k:Int):=by omega
   have k1:(k:Int)<(n:Int):=by omega
   cases hz:(x.count==0)
   ·have l:x.count≠0:=by simpa using hz
    by_cases hs:x.count < -65536\/65536<x.count\/zs.length=4096
    ·have a:Hl (iN 0 xs=true):=Hm (by
      rw[E.o,r.o,iN,if_neg l];rcases hs with h|h|h<;>simp[h])
     by_cases h1:x.count < -65536
     ·have hq:decide ((-65536:Int)<=x.count)=false:=by simp;omega
      go_wp2_with (go_at_call 82;refine(om _ _).mono ?_;rintro e w' ⟨rfl,rfl⟩);all_goals(try(exfalso;go_light;simp_all;done));go_ret2;exact⟨⟨_,_,[],rfl,⟨[],World.ownsRow_nil _ _ _ _,rfl⟩,.inl ⟨rfl,a.o,rfl⟩⟩,hb⟩
     ·by_cases h2:65536<x.count
      ·have hq:decide (x.count<=(65536:Int))=false:=by simp;omega
       go_wp2_with (go_at_call 82;refine(om _ _).mono ?_;rintro e w' ⟨rfl,rfl⟩);all_goals(try(exfalso;go_light;simp_all;done));go_ret2;exact⟨⟨_,_,[],rfl,⟨[],World.ownsRow_nil _ _ _ _,rfl⟩,.inl ⟨rfl,a.o,rfl⟩⟩,hb⟩
      ·have h3:zs.length=4096:=by omega
       have q1:(-65536:Int)<=x.count:=by omega
       have q2:x.count<=(65536:Int):=by omega
       have q3:((zs.length:Int)==4096)=true:=by simp;omega
       clear h3;go_wp2_with (go_at_call 82;refine(om _ _).mono ?_;rintro e w' ⟨rfl,rfl⟩);all_goals(try(exfalso;go_light;simp_all;done));go_ret2;exact⟨⟨_,_,[],rfl,⟨[],World.ownsRow_nil _ _ _ _,rfl⟩,.inl ⟨rfl,a.o,rfl⟩⟩,hb⟩
    ·have q1:(-65536:Int)<=x.count:=by omega
     have q2:x.count<=(65536:Int):=by omega
     have q3:((zs.length:Int)==4096)=false:=by simp;omega
     have a:Hl (iN 0 xs=iN (zs.length+1) (xs.drop (k+1))):=Hm (by
      rw[E.o,r.o,iN,if_neg l];have a1:¬x.count < -65536:=by omega
      have a2:¬65536<x.count:=by omega
      have a3:¬zs.length=4096:=by omega
      simp[a1,a2,a3])
     have y:Hl (iE xs=(zs++[x])++iE (xs.drop (k+1))):=Hm (by rw[H.o,r.o,EP l];simp);obtain⟨cs,Q,aa⟩:=G.o;have J:=Hm Q;have ay:=hb.size;have ak:=Hm (λg (h:(Value.slice Y zs.length c4).ownBlock=some g)=>(Q.lt g h).1);have aI:=Hm (J.o.1);obtain⟨rs,R,V⟩:=Sl.cells C;have ao:D=none->t=0:=λh=>by have:=C.2.2.2.1 h;have:=C.2.1;omega
     have aJ:t<=4096:=by rw[<-C.len];exact ax
     have an:=rM R;have am:Hl (∀W,Below w.heap.size w W->Src W 3 D t rs):=Hm (λW hW=>⟨V.1,λh0=>by
      obtain⟨Z,o',e,hc⟩:=V.2 h0;refine⟨Z,o',e,λj u hu=>?_⟩;have ab:=hc j u hu;exact(hW.cell (p:=⟨Z,o'+j,none⟩) (block_lt_of_cell ab)).trans ab⟩)
     have aj:=Hm R;have ah:=Hm aa;clear Q aa l hs V R;go_wp2_with (go_at_call 82;refine(om _ _).mono ?_;rintro e w' ⟨rfl,rfl⟩);all_goals(try(exfalso;go_light;simp_all;done));go_region_held3 (λw'=>w'.cell? ⟨s,off+k*2,none⟩=some (.slice D t cx)/\w'.cell? ⟨s,off+k*2+1,none⟩=some (.int .i64 x.count)) (first|exact⟨z,B⟩|exact⟨(L.cell (p:=⟨s,off+k*2,none⟩) d).trans z,(L.cell (p:=⟨s,off+k*2+1,none⟩) d).trans B⟩|exact⟨(K.cell (p:=⟨s,off+k*2,none⟩) d).trans z,(K.cell (p:=⟨s,off+k*2+1,none⟩) d).trans B⟩|go_keep) (first|(refine iL _ rfl (.const (.slice none 0 0)) (.tmp 35) 52 rfl w.heap.size 67 i1 _ 3 32 Tryz.underlying52 hj aA aB aC rfl (by decide) (.slice none 0 0) 0 [] rfl (World.ownsRow_nil _ _ _ _) D t cx rs (by simp[Act.eval,Act.put]) ao (by exact am.o _ ((hb.drew))) an (by simp only[maxLen];omega) Ho (by simp;omega) ?_;intro v0 q ae O ap;have K:Below w.heap.size wr q:=((Below.refl w.heap.size wr).drew).grown O (by simp;omega) (by simp[Value.ownBlock]);obtain⟨A0,c0,rfl,U,_⟩:=jZ (S:=λ_=>False) (T:=New w q 67) ae (oC aj.o) (λ_ h=>h.elim) (by rw[C.len];omega) (λg N ht=>⟨N,ht⟩);rw[Nat.zero_add]at U;have al:=Hm U;have F:Below wr.heap.size wr q:=((Below.refl wr.heap.size wr).drew).grown O II (by simp[Value.ownBlock]);have az:w.heap.size<=q.heap.size:=Nat.le_trans ay F.size;have I:=Hm (vR J.o (λg N=>F.block g (J.o.lt g N).2));have ag:=Hm ((ah.o.keep ((Same.b F).sub λk f=>f.2.lt)).mono λk (f:New w wr 67 k)=>(⟨f.1,f.2.b F⟩:New w q 67 k));clear U ae O ap)|(refine iL _ rfl (.tmp 30) (.tmp 43) 30 rfl w.heap.size 55 i0 _ 2 32 Tryz.underlying30 hi aD aE aF rfl (by decide) (.slice Y zs.length c4) zs.length cs (by simp[Act.eval,Act.put]) (by first|exact qh (I.o.alloc _)|exact I.o.alloc _) (some ⟨q.heap.size,0,none⟩) 1 1 [.slice A0 t c0,.int .i64 x.count] (by simp[Act.eval,Act.put]) (by intro h;cases h) (by exact qF (by simp[go_sem]) (by simp[go_sem])) pJ (by simp only[maxLen];omega) Ho (by simp;omega) ?_;intro v1 w1 af P aq;have L:Below w.heap.size wr w1:=(K.trans ((Below.refl w.heap.size q).alloc az _)).grown P (by simp;omega) ak.o));have M:fw w w1 v1 (zs++[x]):=fw.add I.o ag.o al.o ⟨m1,m2⟩ (λk f av=>(P.block k (by simp;omega) (λe=>av e.symm)).trans (Below.heap_alloc _ _ _ f)) af;obtain⟨A1,c1,rfl,_⟩:=M.sl;have ai:=Hm M;have ar:=hb.trans L;clear M af P aq;go_wp2;go_roundw
     case rel=>exact⟨k+1,zs++[x],Ho,by go_num,by simp;omega,y.o,by rw[List.length_append];exact a.o,⟨_,_,rfl⟩,ai.o,ar⟩
     case measure=>simp[intOf];omega
   ·have l:x.count=0:=by simpa using hz
    have a:Hl (iN 0 xs=iN zs.length (xs.drop (k+1))):=Hm (by rw[E.o,r.o,iN,if_pos l]);have y:Hl (iE xs=zs++iE (xs.drop (k+1))):=Hm (by rw[H.o,r.o,EO l]);go_wp2;all_goals(try(exfalso;go_light;simp_all;done));go_roundw
    case rel=>exact⟨k+1,zs,Ho,by go_num,Ho,y.o,a.o,⟨_,_,rfl⟩,G.o,hb⟩
    case measure=>simp[intOf];omega
  ·have hd:=Hm (fG X.len (show n<=k by omega));have a:Hl (iN 0 xs=false):=Hm (by rw[E.o,hd.o];rfl);have y:Hl (zs=iE xs):=Hm (by rw[H.o,hd.o];simp[iE]);go_wp2;go_ret2;exact⟨⟨_,_,zs,rfl,G.o,.inr ⟨rfl,a.o,y.o⟩⟩,hb⟩
theorem ng {P:List Val->Prop}: ∀n xs c,xs.length+c.length<=n->(∀x∈xs,P x.row)->(∀x∈c,P x.row)-> ∀x∈fK xs c,P x.row
 | 0,xs,c,h,_,_=>by
  rw[List.eq_nil_of_length_eq_zero (show xs.length=0 by omega),List.eq_nil_of_length_eq_zero (show c.length=0 by omega)];intro x b;cases b
 |n+1,[],[],_,_,_=>by intro x b;cases b
 |n+1,[],y::c,h,b,hy=>by
  rw[nD];have d:=ng n [] c (by simp at h⊢;omega) b (λz a=>hy z (List.mem_cons_of_mem _ a));intro z a;cases a with
  |head=>exact hy y (List.mem_cons_self ..)
  |tail _ a=>exact d z a
 |n+1,x::xs,[],h,b,hy=>by
  rw[oL];have d:=ng n xs [] (by simp at h⊢;omega) (λz a=>b z (List.mem_cons_of_mem _ a)) hy;intro z a;cases a with
  |head=>exact b x (List.mem_cons_self ..)
  |tail _ a=>exact d z a
 |n+1,x::xs,y::c,h,b,hy=>by
  have e:=b x (List.mem_cons_self ..);have f:=hy y (List.mem_cons_self ..);have g:=ng n xs (y::c) (by simp at h⊢;omega) (λz a=>b z (List.mem_cons_of_mem _ a)) hy;have i:=ng n (x::xs) c (by simp at h⊢;omega) b (λz a=>hy z (List.mem_cons_of_mem _ a));have j:=ng n xs c (by simp at h⊢;omega) (λz a=>b z (List.mem_cons_of_mem _ a)) (λz a=>hy z (List.mem_cons_of_mem _ a));rw[oK]
  split
  ·intro z a;cases a with
   |head=>exact e
   |tail _ a=>exact g z a
  ·split
   ·intro z a;cases a with
    |head=>exact f
    |tail _ a=>exact i z a
   ·intro z a;cases a with
    |head=>exact e
    |tail _ a=>exact j z a
theorem uW {P:List Val->Prop}: ∀n (l:List Ent),l.length<=n->(∀x∈l,P x.row)-> ∀x∈iO l,P x.row
 | 0,l,h,_=>by
  rw[List.eq_nil_of_length_eq_zero (show l.length=0 by omega)];intro x a;cases a
 |n+1,l,h,hb=>by
  by_cases b:l.length<2
  ·rw[qE b];exact hb
  ·rw[sw b];have c:(l.take (l.length / 2)).length=l.length / 2:=by rw[List.length_take];omega
   have d:(l.drop (l.length / 2)).length=l.length-l.length / 2:=by rw[List.length_drop]
   have b1:=uW n (l.take (l.length / 2)) Ho (λx a=>hb x (List.mem_of_mem_take a));have b2:=uW n (l.drop (l.length / 2)) Ho (λx a=>hb x (List.mem_of_mem_drop a));exact ng _ _ _ IK b1 b2
theorem fw.base {w c d:World}{v:Value}{zs:List Ent}(h:fw c d v zs)(hb:w.heap.size<=c.heap.size):fw w d v zs:=by
 obtain⟨f,a,j⟩:=h;refine⟨f,⟨a.1,?_⟩,j.mono λk b=>⟨Nat.le_trans hb b.1,b.2⟩⟩;rcases a.2 with h|⟨g,cap,i,e,l,r⟩
 ·exact .inl h
 ·exact .inr ⟨g,cap,i,e,Nat.le_trans hb l,r⟩
def Em (xs:List Ent)(m:Int)(zs:List Ent):Prop:=(m=2/\iN 0 (iO xs)=true/\zs=[])\/(m=0/\iN 0 (iO xs)=false/\zs=iE (iO xs))
theorem Lg (w:World)(A:Option Addr)(n c:Nat)(xs:List Ent)(a:In w A n c xs)(s:n<=1048576)(hb:uE 65536 xs)(i: ∀x∈xs,x.row.length<=12):
  Calls Tryz.prog 77 #[.slice A n c] w
   λe w'=>(∃v m zs,e=.returned (.tuple #[v,.int .i64 m])/\fw w w' v zs/\Em xs m zs)/\Below w.heap.size w w':=by
 have y:=a.le;have z:=Hm a.len;have hs:=zB 65536 Ho Ho n w A n c xs IK s a hb;have r:=rA _ xs IK;rw[a.len]at r;have t:=Hm (uW (P:=λl=>l.length<=4096) _ xs IK (λx a=>Nat.le_trans (i x a) Ho));clear i hb;go_enter Tryz.func77,Tryz.ntmps77;go_wp2_with fail;refine hs.mono ?_;rintro e u ⟨⟨B,d,rfl,g⟩,b⟩;go_wp2_with fail;refine(Fv u B _ d (iO xs) g Ho t.o).mono ?_;rintro e C ⟨⟨v,m,zs,rfl,f,h⟩,p⟩;have q:=eu b p;have j:=Hm (f.base b.size);have k:Hl (Em xs m zs):=Hm h;clear f h g;go_wp2;go_ret2;exact⟨⟨_,_,zs,rfl,j.o,k.o⟩,q⟩
def wE (xs:List Ent)(m:Int)(zs:List Ent):Prop:=
 (eH (λ_ x=>gy x) 0 xs≠0/\m=eH (λ_ x=>gy x) 0 xs/\zs=[])\/(eH (λ_ x=>gy x) 0 xs=0/\Em xs m zs)
theorem CJ: ∀{xs:List Ent} {k:Nat},eH (λ_ x=>gy x) k xs=0->uE 65536 xs/\ ∀x∈xs,x.row.length<=12
 | [],_,_=>⟨(λx h=>by cases h),(λx h=>by cases h)⟩
 |x::xs,k,h=>by
  have b:gy x=0:=by
   rw[eH]at h;by_cases c:gy x=0
   ·exact c
   ·rw[if_pos c]at h;exact h
  rw[gG b]at h;obtain⟨d,f⟩:=CJ h;rw[p8]at b;have g:¬(12<x.row.length\/x.count < -65536\/65536<x.count):=λe=>by rw[if_pos e]at b;omega
  refine⟨λz a=>?_,λz a=>?_⟩
  ·cases a with
   |head=>omega
   |tail _ a=>exact d z a
  ·cases a with
   |head=>omega
   |tail _ a=>exact f z a
theorem uN (w:World)(A:Option Addr)(n c:Nat)(xs:List Ent)(f:In w A n c xs)(H:n<=1048576):
  Calls Tryz.prog 43 #[.slice A n c] w
   λe w'=>(∃v m zs,e=.returned (.tuple #[v,.int .i64 m])/\fw w w' v zs/\wE xs m zs)/\Below w.heap.size w w':=by
 have J:=f.le;have M:=Hm f.len;go_enter Tryz.func43,Tryz.ntmps43;go_wp2;go_loopw [4] (λi wr=> ∃k:Nat,k<=n/\i=.int .i64 k/\eH (λ_ x=>gy x) 0 xs=eH (λ_ x=>gy x) k (xs.drop k)/\Below w.heap.size w wr) (λi _=>n-(intOf i).toNat)
 case atStart=>exact⟨0,Nat.zero_le _,rfl,rfl,IJ⟩
 case round=>
  obtain⟨k,L,rfl,q,hb⟩:=hrel;have h:=Hm q;clear q;by_cases G:k<n
  ·obtain⟨b,off,x,rfl,K,j,u,I,c2,B,f1,l,C⟩:=(f.b hb).ent G;have D:=Hm C;go_wp2_with fail;refine(AQ wr u I c2 x l D.o).mono ?_;rintro e O ⟨rfl,p⟩;have g:=eu hb p;clear p B f1 l;by_cases d:gy x=0
   ·have a:Hl (eH (λ_ x=>gy x) 0 xs=eH (λ_ x=>gy x) (k+1) (xs.drop (k+1))):=Hm (by rw[h.o,j.o];exact gG d);rw[d];go_wp2;go_roundw
    case rel=>exact⟨k+1,Ho,by go_num,a.o,g⟩
    case measure=>simp[intOf];omega
   ·have a:Hl (eH (λ_ x=>gy x) 0 xs=gy x):=Hm (by rw[h.o,j.o];exact fI rfl d);have N:(gy x==0)=false:=by simpa using d
    generalize gy x=m at*;go_wp2;all_goals(try(exfalso;go_light;simp_all;done));go_ret2;exact⟨⟨_,_,[],rfl,⟨[],World.ownsRow_nil _ _ _ _,rfl⟩,.inl ⟨by rw[a.o];exact d,a.o.symm,rfl⟩⟩,g⟩
  ·have a:Hl (eH (λ_ x=>gy x) 0 xs=0):=Hm (by rw[h.o,fG f.len Ho,eH]);have s:=Hm (CJ a.o);have F:=Hm (f.b hb);go_wp2_with fail;refine(Lg wr A n c xs F.o H s.o.1 s.o.2).mono ?_;rintro e P ⟨⟨v,m,zs,rfl,r,t⟩,E⟩;have g:=eu hb E;have y:=Hm (r.base hb.size);have z:=Hm t;clear r t;go_wp2;go_ret2;exact⟨⟨_,_,zs,rfl,y.o,.inr ⟨a.o,z.o⟩⟩,g⟩
end Go.Proofs.YthnelebakkggjaaGreatDoor
