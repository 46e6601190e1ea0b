/-
  warehouseref22.SameRow, SameEntries; warehouselaw22.sameParts; warehouseworld.Within. warehouseref6.sorted. warehouseref6.result: the entries with counts that are not 0, with rows in new memory. warehouseref6.Sum and Normalize.
-/
import Derived.Test.YtopjjlmfilgngaaGreatDoorGai
import Derived.Test.YtopjjlmfilgngaaGreatDoorMerge
namespace Go.Proofs.YtopjjlmfilgngaaGreatDoor
set_option maxHeartbeats 4000000
set_option maxRecDepth 100000
open Go.RowKit
set_option linter.unusedSimpArgs false
set_option linter.unusedVariables false
theorem JG {α:Type}{xs a:List α}{k:Nat}{x:α}{l m:List α}(h:xs.take k=a.take k)(b:xs.drop k=x::l)(c:a.drop k=x::m):xs.take (k+1)=a.take (k+1):=by
 rw[ic b,ic c,h]
theorem Mf {α:Type}{xs a:List α}{n:Nat}(h:xs.take n=a.take n)(b:xs.length=n)(c:a.length=n):xs=a:=by
 rw[List.take_of_length_le (by omega),List.take_of_length_le (by omega)]at h;exact h
theorem MV {α:Type}{xs b:List α}{k:Nat}{x y:α}{l m:List α}(a:xs.drop k=x::l)(d:b.drop k=y::m)(c:x≠y):xs≠b:=λe=>by
 rw[e,d]at a;injection a with a;exact c a.symm
theorem Pb {a b c d:Int}{s t:ByteArray}:(⟨a,c,s⟩:Val)=⟨b,d,t⟩↔a=b/\c=d/\s=t:=by
 constructor
 ·intro h;injection h with h1 h2 h3;exact⟨h1,h2,h3⟩
 ·rintro⟨rfl,rfl,rfl⟩;rfl
theorem NF (w:World)(a c b d:Int)(s e:ByteArray):(binOp .neq 36 (.agg #[.int .i64 a,.int .i64 b,.string s]) (.agg #[.int .i64 c,.int .i64 d,.string e])).run Tryz.prog w=.ok (.bool (!(a==c&&b==d&&s.toList==e.toList))) w:=by
 have m:=Tryz.underlying3;have n:=Tryz.underlying9;have k:=Tryz.isAgg3;have l:=Tryz.isAgg9;have o:=Tryz.sizeOf3;have p:=Tryz.sizeOf9;have i:Tryz.prog.underlying 36=some (.struct (Tryz.prog.fieldsOf 36)):=by kernel_rfl
 have j:Tryz.prog.stoodInHeld 36=false:=by kernel_rfl
 rw[run_neq_struct,show(10000:Nat)=9999+1 from rfl,run_equalIn_agg w 9999 36 _ _ i j];simp only[Program.fieldsOf,Tryz.underlying36];go_simp;by_cases f:a=c<;>by_cases g:b=d<;>by_cases h:s.toList=e.toList<;>simp[f,g,h]
theorem NR {a a' b b':Int}{s s':ByteArray}:(a==a'&&b==b'&&s.toList==s'.toList)=true↔(⟨a,b,s⟩:Val)=⟨a',b',s'⟩:=by
 rw[Pb,Bool.and_eq_true,Bool.and_eq_true,beq_iff_eq,beq_iff_eq,beq_iff_eq,and_assoc,ByteArray.toList_eq,ByteArray.toList_eq];constructor
 ·rintro⟨d,e,c⟩;refine⟨d,e,?_⟩;obtain⟨⟨x⟩⟩:=s;obtain⟨⟨y⟩⟩:=s';simp at c;rw[c]
 ·rintro⟨rfl,rfl,rfl⟩;exact⟨rfl,rfl,rfl⟩
theorem uo (w:World)(A A2:Option Addr)(n n2 c c2:Nat)(xs g:List Val)(p:In w A n c xs)(L:In w A2 n2 c2 g):
  Calls Tryz.prog 27 #[.slice A n c,.slice A2 n2 c2] w λe w'=>(∃r,e=.returned (.bool r)/\(r=true↔xs=g))/\Below w.heap.size w w':=by
 have V:=p.le;have hm:Tryz.prog.eqGuardType Tryz.prog.depth 36=false:=by kernel_rfl
 have I:=Hm p.len;have J:=Hm L.len;by_cases m:n=n2
 ·subst m;go_enter Tryz.func27,Tryz.ntmps27;go_wp2;all_goals(try(exfalso;go_light;simp_all;done));go_loopw [5] (λi wr=> ∃k:Nat,k<=n/\i=.int .i64 k/\xs.take k=g.take k/\Below w.heap.size w wr) (λi _=>n-(intOf i).toNat)
  case atStart=>exact⟨0,Nat.zero_le _,rfl,rfl,Below.refl _ _⟩
  case round=>
   obtain⟨k,Z,rfl,G,hb⟩:=hrel;have D:=Hm G;have l:=Hm hb;clear G;by_cases H:k<n
   ·obtain⟨b,off,x,rfl,X,E,O,P,Q,T⟩:=(p.below hb).val H;obtain⟨N,aa,y,rfl,Y,F,R,f1,S,U⟩:=(L.below hb).val H;have k0:(0:Int)<=(k:Int):=by omega
    have k1:(k:Int)<(n:Int):=by omega
    obtain⟨t,u,v⟩:=x;obtain⟨z,B,C⟩:=y;simp only at O P Q R f1 S;have j:=Hm (NR (a:=t) (a':=z) (b:=u) (b':=B) (s:=v) (s':=C));have M:=λW=>NF W t z u B v C;cases f:(t==z&&u==B&&v.toList==C.toList)
    ·have d:Hl (xs≠g):=Hm (MV E.o F.o λe=>by rw[j.o.2 e]at f;cases f);rw[f]at M;clear f j;go_wp2;go_quiet (fail);go_wp2;go_ret;exact⟨⟨false,rfl,(λh=>by cases h),λh=>absurd h d.o⟩,iH l.o⟩
    ·have K:=j.o.1 f;rw[f]at M;have d:Hl (xs.take (k+1)=g.take (k+1)):=Hm (JG D.o E.o (by rw[K];exact F.o));clear f j K;go_wp2;go_quiet (fail);go_wp2;go_roundw
     case rel=>exact⟨k+1,by omega,by go_num,d.o,iH l.o⟩
     case measure=>simp[intOf];omega
   ·have d:=Hm (Mf (n:=k) D.o (by rw[I.o];omega) (by rw[J.o];omega));go_wp2;go_ret;exact⟨⟨true,rfl,λ_=>d.o,λ_=>rfl⟩,l.o⟩
 ·have d:Hl (xs≠g):=Hm λe=>m (by rw[<-I.o,<-J.o,e]);have q:((n:Int) != (n2:Int))=true:=by simp;omega
  clear m;go_enter Tryz.func27,Tryz.ntmps27;go_wp2;all_goals(try(exfalso;go_light;simp_all;done));go_ret;exact⟨⟨false,rfl,(λh=>by cases h),λh=>absurd h d.o⟩,Below.refl _ _⟩
theorem cells_one: ∀{xs:List Ent} {w:World} {S:Nat->Prop} {a:List Value},Cells w S a xs-> ∀u∈a,u.oneCell'=true
 | [],_,_,_,h,u,hu=>by rw[show _=[] from h]at hu;cases hu
 |x::xs,_,_,_,⟨c0,c1,rfl,h0,h1⟩,u,hu=>by
  rcases List.mem_append.1 hu with h|h
  ·obtain⟨A,n,c,e,_,_⟩:=h0;rw[e]at h;exact pJ u h
  ·exact cells_one h1 u h
theorem Sl.head {α:Type}[Rep α]{w:World}{S:Nat->Prop}{A:Option Addr}{n c k:Nat}{xs:List α}(h:Sl w S A n c xs)(d:k<=n):Sl w S A k c (xs.take k):=by
 refine⟨by rw[List.length_take,h.1];omega,by have:=h.2.1;omega,h.2.2.1,h.2.2.2.1,λf=>?_⟩;obtain⟨b,off,e,hb,hi⟩:=h.2.2.2.2 (by omega);refine⟨b,off,e,hb,λi a=>?_⟩;rw[List.length_take]at a;rw[List.getElem_take];exact hi i (by omega)
theorem OwnEnts.sl {w w':World}{S:Nat->Prop}{v:Value}{zs:List Ent}(h:OwnEnts w w' S v zs)(d: ∀k,S k->k<w'.heap.size): ∃A c,v=.slice A zs.length c/\In w' A zs.length c zs:=by
 obtain⟨i,a,b⟩:=h.own;obtain⟨A,c,e,hs,_⟩:=kU (T:=λk=>k<w'.heap.size) a b d rfl (λg _ f=>f.lt);exact⟨A,c,e,hs⟩
theorem wK (w:World)(A:Option Addr)(n c:Nat)(xs:List Ent)(a:In w A n c xs)(D:n<2):
  Calls Tryz.prog 101 #[.slice A n c] w
   λe w'=>(∃B d,e=.returned (.slice B (jD xs).length d)/\In w' B (jD xs).length d (jD xs))/\Below w.heap.size w w':=by
 obtain⟨I,hi,F,G,H⟩:=info_parts rq;obtain⟨v,f,E⟩:=Sl.cells a;have q:=Hm a.len;have y:A=none->n=0:=λh=>by have:=a.2.2.2.1 h;have:=a.2.1;omega
 have x:=cells_one f;have t:=Hm (qF (l:=xs) (by rw[a.len];exact D));go_enter Tryz.func101,Tryz.ntmps101;go_wp2_with (at_builtin;refine lV _ rfl (.const (.slice none 0 0)) (.tmp 6) 27 rfl w.heap.size 50 I _ 2 32 Tryz.underlying27 hi F G H rfl (by decide) (.slice none 0 0) 0 [] rfl (World.ownsRow_nil _ _ _ _) A n c v rfl y E x (by simp only[maxLen];omega) (by omega) (Nat.le_refl _) ?_;intro J p j g z);have b:Below w.heap.size w p:=(Below.refl _ _).grown g (Nat.le_refl _) (by simp[Value.ownBlock]);have s:Hl (OwnEnts w p (λk=>k<w.heap.size) J (jD xs)):=Hm (by
  rw[t.o];exact⟨_,by rw[q.o];simpa using j,f.keep (Same.below b)⟩)
 obtain⟨B,d,m,i⟩:=s.o.sl (λk C=>Nat.lt_of_lt_of_le C b.size);have u:=Hm m;have r:=Hm i;clear j g z m i;go_wp2;go_ret;exact⟨⟨B,d,by rw[u.o];rfl,r.o⟩,b⟩
theorem vN.take {C:Int}{l:List Ent}(h:vN C l)(k:Nat):vN C (l.take k):=λx a=>h x (List.mem_of_mem_take a)
theorem vN.drop {C:Int}{l:List Ent}(h:vN C l)(k:Nat):vN C (l.drop k):=λx a=>h x (List.mem_of_mem_drop a)
theorem zS (C:Int)(a:0<=C)(s:C<=1099511627776): ∀(N:Nat) (w:World) (A:Option Addr) (n c:Nat) (xs:List Ent),n<=N->n<=1048576->In w A n c xs->vN C xs->
  Calls Tryz.prog 101 #[.slice A n c] w
   λe w'=>(∃B d,e=.returned (.slice B (jD xs).length d)/\In w' B (jD xs).length d (jD xs))/\Below w.heap.size w w'
 | 0,w,A,n,c,xs,hN,hM,hx,hb=>wK w A n c xs hx (by omega)
 |N+1,w,A,n,c,xs,hN,hM,hx,hb=>by
  by_cases K:n<2
  ·exact wK w A n c xs hx K
  have P:=zS C a s N;obtain⟨k,g⟩: ∃k,n / 2=k:=⟨_,rfl⟩;have ad:1<=k:=by omega
  have ae:k<n:=by omega
  have ab:(n:Int) / 2=(k:Int):=by omega
  have U:=Hm g;have q0:Int.tdiv (n:Int) 2=(k:Int):=by rw[Int.tdiv_eq_ediv_of_nonneg (by omega)];exact ab
  have q1:IntKind.i64.wrap (k:Int)=(k:Int):=IntWalk.i64_in _ (by omega);have q2:(0:Int)<=(k:Int):=by omega
  have q3:(k:Int)<=(n:Int):=by omega
  have q4:(k:Int)<=(c:Int):=by have:=hx.cap;omega
  have q5:(n:Int)<=(c:Int):=by have:=hx.cap;omega
  have ac:=hx.cap;obtain⟨b,off,rfl,_,_⟩:=hx.2.2.2.2 (by omega);obtain⟨A2,aa⟩: ∃A2,(if c=k then some (⟨b,off,none⟩:Addr) else some ⟨b,off+k*2,none⟩)=A2:=⟨_,rfl⟩;have hL:=Hm (Sl.head hx (k:=k) (by omega));have hR:Hl (In w A2 (n-k) (c-k) (xs.drop k)):=Hm (by have h:=Sl.tail hx (k:=k) (by omega);rw[Option.map_some,mE]at h;rw[<-aa];exact h);have E:=Hm P;clear P g;go_enter Tryz.func101,Tryz.ntmps101;go_wp2_with fail;have D:=Hm hb;have X:=Hm hx.len;have lt:((xs.take k).length:Int)=k:=by rw[List.length_take,hx.len];omega
  have l1:=rM _ (xs.take k) (Nat.le_refl _);have l2:=rM _ (xs.drop k) (Nat.le_refl _);rw[List.length_drop,hx.len]at l2;have m:=uN a _ (xs.take k) (Nat.le_refl _) (vN.take hb k);have p:=uN a _ (xs.drop k) (Nat.le_refl _) (vN.drop hb k);rw[lt]at m;rw[List.length_drop,hx.len]at p;have Q:=Hm m;have R:=Hm p;have lk:(jD (xs.take k)).length<=k:=by omega
  have HQ:=Hm (sQ (l:=xs) (by rw[hx.len];exact K));have c1:C*(k:Int)<=1152921504606846976:=Int.le_trans (Int.mul_le_mul s (show(k:Int)<=1048576 by omega) (by omega) (by omega)) (by omega);have c2:C*((n-k:Nat):Int)<=1152921504606846976:=Int.le_trans (Int.mul_le_mul s (show((n-k:Nat):Int)<=1048576 by omega) (by omega) (by omega)) (by omega);have c3:=Int.mul_nonneg a (show(0:Int)<=(k:Int) by omega);have c4:=Int.mul_nonneg a (show(0:Int)<=((n-k:Nat):Int) by omega);have f:=Hm (And.intro c1 (And.intro c2 (And.intro c3 c4)));have S:=Hm (λ(W:World) (t:Below w.heap.size w W)=>E.o W (some ⟨b,off,none⟩) k c (xs.take k) (by omega) (by omega) (In.below hL.o t) (vN.take D.o k));have T:=Hm (λ(W:World) (t:Below w.heap.size w W)=>E.o W A2 (n-k) (c-k) (xs.drop k) (by omega) (by omega) (In.below hR.o t) (vN.drop D.o k));have Y:=Hm (λ(W:World) (i j:Option Addr) (q r:Nat) (h1:In W i (jD (xs.take k)).length q (jD (xs.take k))) (h2:In W j (jD (xs.drop k)).length r (jD (xs.drop k)))=>
   Jh W i j _ _ q r _ _ h1 h2 (by omega) _ _ f.o.2.2.1 f.o.1 f.o.2.2.2 f.o.2.1 Q.o R.o)
  clear hb lt m p c1 c2 c3 c4;go_region_held3 (λw'=>Below w.heap.size w w') (first|exact(Below.refl _ _).drew|exact z|exact L|exact y|go_keep) (first|(go_at_call 101;(with_reducible refine(S.o _ ?_).mono ?_);exact(Below.refl _ _).drew;rintro e w1 ⟨⟨i,q,rfl,H⟩,F⟩;have y:=((Below.refl w.heap.size w).drew).trans F)|(go_at_call 101;(with_reducible refine(T.o _ ?_).mono ?_);exact y;rintro e w2 ⟨⟨j,r,rfl,J⟩,u⟩;have L:=fH y u;have I:=H.below u)|(go_at_call 47;(with_reducible refine(Y.o _ _ _ _ _ ?_ ?_).mono ?_);exact I;exact J;rintro e w3 ⟨⟨v3,rfl,O⟩,v⟩;have z:=fH L v));have x:jD xs=iZ (jD (xs.take k)) (jD (xs.drop k)):=by
   have h:=HQ.o;rw[X.o,U.o]at h;exact h
  obtain⟨B,d,M,G⟩:=O.sl (λk g=>Nat.lt_of_lt_of_le g v.size);have HV:=Hm M;have Z:Hl (In w3 B (jD xs).length d (jD xs)):=Hm (by rw[x];exact G);have V:=Hm (congrArg List.length x);clear M G x O v u F H I J;go_wp2;go_ret;refine⟨⟨B,d,?_,Z.o⟩,by first|exact z|exact z.drew⟩;have e:=HV.o;rw[<-V.o]at e;exact congrArg Ending.returned e
theorem LD {w:World}{base:Nat}{e:TypeId}{size:Nat}{v:Value}{n:Nat}{xs:List Value}(h:w.ownsRow base e size v n xs){g:Nat}(a:v.ownBlock=some g):iF w e g:=by
 rcases h.2 with ⟨rfl,_⟩|⟨d,cap,b,rfl,_,c,_⟩
 ·simp[Value.ownBlock]at a
 ·simp[Value.ownBlock]at a;subst a;exact⟨b,c⟩
def gz (w w':World)(v:Value)(zs:List Ent):Prop:= ∃a,w'.ownsRow w.heap.size 50 2 v zs.length a/\Cells w' (New w w' 36) a zs
theorem Ll {w a d:World}{v:Value}{base n:Nat}{g:List Value}(j:a.ownsRow base 50 2 v n g)(hs: ∀k,k<a.heap.size->v.ownBlock≠some k->d.heap[k]?=a.heap[k]?):
  Same (New w a 36) a d/\ ∀k,New w a 36 k->New w d 36 k:=by
 have f:Same (New w a 36) a d:=λk b=>hs k b.2.lt λe=>by
  have h:=LD j e;exact iF.ne h b.2 (by decide) rfl
 refine⟨f,λk b=>⟨b.1,?_⟩⟩;obtain⟨c,i⟩:=b.2;exact⟨c,(f k b).trans i⟩
theorem gz.below {w w' c:World}{v:Value}{zs:List Ent}(h:gz w w' v zs)(hb:Below w'.heap.size w' c):gz w c v zs:=by
 obtain⟨d,b,e⟩:=h;refine⟨d,wG b (λg f=>hb.block g (b.lt g f).2),(e.keep ((Same.below hb).sub λk a=>a.2.lt)).mono λk a=>⟨a.1,a.2.below hb⟩⟩
theorem gz.sl {w w':World}{v:Value}{zs:List Ent}(h:gz w w' v zs): ∃A c,v=.slice A zs.length c/\In w' A zs.length c zs:=by
 obtain⟨i,a,b⟩:=h;obtain⟨A,c,e,hs,_⟩:=kU (T:=λk=>k<w'.heap.size) a b (λk f=>f.2.lt) rfl (λg _ d=>d.lt);exact⟨A,c,e,hs⟩
theorem gz.add {w a b:World}{v g:Value}{zs:List Ent}{d:List Value}{x:Ent}{A:Option Addr}{n c:Nat}(l:a.ownsRow w.heap.size 50 2 v zs.length d)(j:Cells a (New w a 36) d zs)(o:Sl a (New w a 36) A n c x.row)(i:jU x.count)(hs: ∀k,k<a.heap.size->v.ownBlock≠some k->b.heap[k]?=a.heap[k]?)(m:b.ownsRow w.heap.size 50 2 g (zs.length+1) (d++[.slice A n c,.int .i64 x.count])):gz w b g (zs++[x]):=by
 obtain⟨e,f⟩:=Ll (w:=w) l hs;have h:Rep.rd b (New w b 36) [.slice A n c,.int .i64 x.count] x:=⟨A,n,c,rfl,(o.keep e).mono f,i⟩;exact⟨_,by rw[List.length_append];exact m,Cells.app (Cells.one h) ((j.keep e).mono f)⟩
theorem rY: ∀{xs:List Val} {w:World} {S:Nat->Prop} {a:List Value},Cells w S a xs-> ∀u∈a,u.oneCell'=true
 | [],_,_,_,h,u,hu=>by rw[show _=[] from h]at hu;cases hu
 |x::xs,_,_,_,⟨c0,c1,rfl,h0,h1⟩,u,hu=>by
  rcases List.mem_append.1 hu with h|h
  ·have e:c0=x.cells:=h0.1;rw[e]at h;simp[Val.cells]at h;rcases h with rfl|rfl|rfl<;>rfl
  ·exact rY h1 u h
theorem oJ: ∀{xs:List Val} {w w':World} {S T:Nat->Prop} {a:List Value},Cells w S a xs->Cells w' T a xs
 | [],_,_,_,_,_,h=>h
 |x::xs,_,_,_,_,_,⟨c0,c1,e,h0,h1⟩=>⟨c0,c1,e,h0,oJ h1⟩
theorem FY {x:Ent}{l:List Ent}(h:x.count=0):jw (x::l)=jw l:=by simp[jw,h]
theorem FZ {x:Ent}{l:List Ent}(h:x.count≠0):jw (x::l)=x::jw l:=by simp[jw,h]
theorem Gw (w:World)(A:Option Addr)(n c:Nat)(xs:List Ent)(V:In w A n c xs)(hn:n<=1048576)(aw: ∀x∈xs,x.row.length<=4096):
  Calls Tryz.prog 46 #[.slice A n c] w
   λe w'=>(∃v m zs,e=.returned (.tuple #[v,.int .i64 m])/\gz w w' v zs/\((m=2/\jv 0 xs=true/\zs=[])\/(m=0/\jv 0 xs=false/\zs=jw xs)))/\Below w.heap.size w w':=by
 obtain⟨i0,hi,aD,aE,aF⟩:=info_parts rq;obtain⟨i1,hj,aA,aB,aC⟩:=info_parts nQ;have aG:=V.le;go_enter Tryz.func46,Tryz.ntmps46;go_wp2;go_loopw [4,5] (λo i wr=> ∃(k:Nat) (zs:List Ent),k<=n/\i=.int .i64 k/\zs.length<=k/\jw xs=zs++jw (xs.drop k)/\jv 0 xs=jv zs.length (xs.drop k)/\(∃A c,o=.slice A zs.length c)/\gz w wr o zs/\Below w.heap.size w wr)
  (λ_ i _=>n-(intOf i).toNat)
 case atStart=>exact⟨0,[],Nat.zero_le _,rfl,by simp,by simp,by simp,⟨none,0,rfl⟩,⟨[],World.ownsRow_nil _ _ _ _,rfl⟩,Below.refl _ _⟩
 case round=>
  obtain⟨k,zs,d,rfl,aK,ad,ac,⟨X,c4,rfl⟩,hf,hb⟩:=hrel;have G:=Hm ad;have D:=Hm ac;have F:=Hm hf;clear ad ac hf;by_cases au:k<n
  ·obtain⟨r,off,x,rfl,b,q,C,s,Z,y,z,B,e3⟩:=V.ent au;replace y:=fO hb b y;replace z:=fO hb b z;have aH:=Nat.lt_of_lt_of_le b hb.size;obtain⟨m1,m2⟩:=e3;have ax:x.row.length<=4096:=aw x (List.mem_of_getElem? (iR q.o).1);have k0:(0:Int)<=(k:Int):=by omega
   have k1:(k:Int)<(n:Int):=by omega
   cases hz:(x.count==0)
   ·have f:x.count≠0:=by simpa using hz
    by_cases hs:x.count < -65536\/65536<x.count\/zs.length=4096
    ·have a:Hl (jv 0 xs=true):=Hm (by
      rw[D.o,q.o,jv,if_neg f];rcases hs with h|h|h<;>simp[h])
     by_cases h1:x.count < -65536
     ·have hq:decide ((-65536:Int)<=x.count)=false:=by simp;omega
      go_wp2_with (go_at_call 75;refine(oF _ _).mono ?_;rintro e w' ⟨rfl,rfl⟩);all_goals(try(exfalso;go_light;simp_all;done));go_ret2;exact⟨⟨_,_,[],rfl,⟨[],World.ownsRow_nil _ _ _ _,rfl⟩,.inl ⟨rfl,a.o,rfl⟩⟩,hb⟩
     ·by_cases h2:65536<x.count
      ·have hq:decide (x.count<=(65536:Int))=false:=by simp;omega
       go_wp2_with (go_at_call 75;refine(oF _ _).mono ?_;rintro e w' ⟨rfl,rfl⟩);all_goals(try(exfalso;go_light;simp_all;done));go_ret2;exact⟨⟨_,_,[],rfl,⟨[],World.ownsRow_nil _ _ _ _,rfl⟩,.inl ⟨rfl,a.o,rfl⟩⟩,hb⟩
      ·have h3:zs.length=4096:=by omega
       have q1:(-65536:Int)<=x.count:=by omega
       have q2:x.count<=(65536:Int):=by omega
       have q3:((zs.length:Int)==4096)=true:=by simp;omega
       clear h3;go_wp2_with (go_at_call 75;refine(oF _ _).mono ?_;rintro e w' ⟨rfl,rfl⟩);all_goals(try(exfalso;go_light;simp_all;done));go_ret2;exact⟨⟨_,_,[],rfl,⟨[],World.ownsRow_nil _ _ _ _,rfl⟩,.inl ⟨rfl,a.o,rfl⟩⟩,hb⟩
    ·have q1:(-65536:Int)<=x.count:=by omega
     have q2:x.count<=(65536:Int):=by omega
     have q3:((zs.length:Int)==4096)=false:=by simp;omega
     have a:Hl (jv 0 xs=jv (zs.length+1) (xs.drop (k+1))):=Hm (by
      rw[D.o,q.o,jv,if_neg f];have a1:¬x.count < -65536:=by omega
      have a2:¬65536<x.count:=by omega
      have a3:¬zs.length=4096:=by omega
      simp[a1,a2,a3])
     have t:Hl (jw xs=(zs++[x])++jw (xs.drop (k+1))):=Hm (by rw[G.o,q.o,FZ f];simp);obtain⟨cs,P,aa⟩:=F.o;have I:=Hm P;have ay:=hb.size;have ak:=Hm (λg (h:(Value.slice X zs.length c4).ownBlock=some g)=>(P.lt g h).1);have aI:=Hm (I.o.1);obtain⟨rs,Q,U⟩:=Sl.cells B;have ao:C=none->s=0:=λh=>by have:=B.2.2.2.1 h;have:=B.2.1;omega
     have aJ:s<=4096:=by rw[<-B.len];exact ax
     have an:=rY Q;have am:Hl (∀W,Below w.heap.size w W->Src W 3 C s rs):=Hm (λW hW=>⟨U.1,λh0=>by
      obtain⟨Y,o',e,hc⟩:=U.2 h0;refine⟨Y,o',e,λj u hu=>?_⟩;have ab:=hc j u hu;exact(hW.cell (p:=⟨Y,o'+j,none⟩) (block_lt_of_cell ab)).trans ab⟩)
     have aj:=Hm Q;have ah:=Hm aa;clear P aa f hs U Q;go_wp2_with (go_at_call 75;refine(oF _ _).mono ?_;rintro e w' ⟨rfl,rfl⟩);all_goals(try(exfalso;go_light;simp_all;done));go_region_held3 (λw'=>w'.cell? ⟨r,off+k*2,none⟩=some (.slice C s Z)/\w'.cell? ⟨r,off+k*2+1,none⟩=some (.int .i64 x.count)) (first|exact⟨y,z⟩|exact⟨(K.cell (p:=⟨r,off+k*2,none⟩) b).trans y,(K.cell (p:=⟨r,off+k*2+1,none⟩) b).trans z⟩|exact⟨(J.cell (p:=⟨r,off+k*2,none⟩) b).trans y,(J.cell (p:=⟨r,off+k*2+1,none⟩) b).trans z⟩|go_keep) (first|(refine jl _ rfl (.const (.slice none 0 0)) (.tmp 35) 23 rfl w.heap.size 36 i1 _ 3 32 Tryz.underlying23 hj aA aB aC rfl (by decide) (.slice none 0 0) 0 [] rfl (World.ownsRow_nil _ _ _ _) C s Z rs (by simp[Act.eval,Act.put]) ao (by exact am.o _ ((hb.drew))) an (by simp only[maxLen];omega) (by omega) (by simp;omega) ?_;intro v0 l ae N ap;have J:Below w.heap.size wr l:=((Below.refl w.heap.size wr).drew).grown N (by simp;omega) (by simp[Value.ownBlock]);obtain⟨A0,c0,rfl,R,_⟩:=kU (S:=λ_=>False) (T:=New w l 36) ae (oJ aj.o) (λ_ h=>h.elim) (by rw[B.len];omega) (λg M ht=>⟨M,ht⟩);rw[Nat.zero_add]at R;have al:=Hm R;have E:Below wr.heap.size wr l:=((Below.refl wr.heap.size wr).drew).grown N (by simp) (by simp[Value.ownBlock]);have az:w.heap.size<=l.heap.size:=Nat.le_trans ay E.size;have H:=Hm (wG I.o (λg M=>E.block g (I.o.lt g M).2));have ag:=Hm ((ah.o.keep ((Same.below E).sub λk d=>d.2.lt)).mono λk (d:New w wr 36 k)=>(⟨d.1,d.2.below E⟩:New w l 36 k));clear R ae N ap)|(refine jl _ rfl (.tmp 30) (.tmp 43) 27 rfl w.heap.size 50 i0 _ 2 32 Tryz.underlying27 hi aD aE aF rfl (by decide) (.slice X zs.length c4) zs.length cs (by simp[Act.eval,Act.put]) (by first|exact qc (H.o.alloc _)|exact H.o.alloc _) (some ⟨l.heap.size,0,none⟩) 1 1 [.slice A0 s c0,.int .i64 x.count] (by simp[Act.eval,Act.put]) (by intro h;cases h) (by exact qG (by simp[go_sem]) (by simp[go_sem])) pJ (by simp only[maxLen];omega) (by omega) (by simp;omega) ?_;intro v1 w1 af O aq;have K:Below w.heap.size wr w1:=(J.trans ((Below.refl w.heap.size l).alloc az _)).grown O (by simp;omega) ak.o));have L:gz w w1 v1 (zs++[x]):=gz.add H.o ag.o al.o ⟨m1,m2⟩ (λk d av=>(O.block k (by simp;omega) (λe=>av e.symm)).trans (Below.heap_alloc _ _ _ d)) af;obtain⟨A1,c1,rfl,_⟩:=L.sl;have ai:=Hm L;have ar:=hb.trans K;clear L af O aq;go_wp2;go_roundw
     case rel=>exact⟨k+1,zs++[x],by omega,by go_num,by simp;omega,t.o,by rw[List.length_append];exact a.o,⟨_,_,rfl⟩,ai.o,ar⟩
     case measure=>simp[intOf];omega
   ·have f:x.count=0:=by simpa using hz
    have a:Hl (jv 0 xs=jv zs.length (xs.drop (k+1))):=Hm (by rw[D.o,q.o,jv,if_pos f]);have t:Hl (jw xs=zs++jw (xs.drop (k+1))):=Hm (by rw[G.o,q.o,FY f]);go_wp2;all_goals(try(exfalso;go_light;simp_all;done));go_roundw
    case rel=>exact⟨k+1,zs,by omega,by go_num,by omega,t.o,a.o,⟨_,_,rfl⟩,F.o,hb⟩
    case measure=>simp[intOf];omega
  ·have hd:=Hm (gG V.len (show n<=k by omega));have a:Hl (jv 0 xs=false):=Hm (by rw[D.o,hd.o];rfl);have t:Hl (zs=jw xs):=Hm (by rw[G.o,hd.o];simp[jw]);go_wp2;go_ret2;exact⟨⟨_,_,zs,rfl,F.o,.inr ⟨rfl,a.o,t.o⟩⟩,hb⟩
theorem nE {P:List Val->Prop}: ∀n xs c,xs.length+c.length<=n->(∀x∈xs,P x.row)->(∀x∈c,P x.row)-> ∀x∈iZ xs c,P x.row
 | 0,xs,c,h,_,_=>by
  rw[List.eq_nil_of_length_eq_zero (show xs.length=0 by omega),List.eq_nil_of_length_eq_zero (show c.length=0 by omega)];intro x b;cases b
 |n+1,[],[],_,_,_=>by intro x b;cases b
 |n+1,[],y::c,h,b,hy=>by
  rw[pI];have d:=nE n [] c (by simp at h⊢;omega) b (λz a=>hy z (List.mem_cons_of_mem _ a));intro z a;cases a with
  |head=>exact hy y (List.mem_cons_self ..)
  |tail _ a=>exact d z a
 |n+1,x::xs,[],h,b,hy=>by
  rw[qB];have d:=nE n xs [] (by simp at h⊢;omega) (λz a=>b z (List.mem_cons_of_mem _ a)) hy;intro z a;cases a with
  |head=>exact b x (List.mem_cons_self ..)
  |tail _ a=>exact d z a
 |n+1,x::xs,y::c,h,b,hy=>by
  have e:=b x (List.mem_cons_self ..);have f:=hy y (List.mem_cons_self ..);have g:=nE n xs (y::c) (by simp at h⊢;omega) (λz a=>b z (List.mem_cons_of_mem _ a)) hy;have i:=nE n (x::xs) c (by simp at h⊢;omega) b (λz a=>hy z (List.mem_cons_of_mem _ a));have j:=nE n xs c (by simp at h⊢;omega) (λz a=>b z (List.mem_cons_of_mem _ a)) (λz a=>hy z (List.mem_cons_of_mem _ a));rw[qA]
  split
  ·intro z a;cases a with
   |head=>exact e
   |tail _ a=>exact g z a
  ·split
   ·intro z a;cases a with
    |head=>exact f
    |tail _ a=>exact i z a
   ·intro z a;cases a with
    |head=>exact e
    |tail _ a=>exact j z a
theorem vM {P:List Val->Prop}: ∀n (l:List Ent),l.length<=n->(∀x∈l,P x.row)-> ∀x∈jD l,P x.row
 | 0,l,h,_=>by
  rw[List.eq_nil_of_length_eq_zero (show l.length=0 by omega)];intro x a;cases a
 |n+1,l,h,hb=>by
  by_cases b:l.length<2
  ·rw[qF b];exact hb
  ·rw[sQ b];have e:(l.take (l.length / 2)).length=l.length / 2:=by rw[List.length_take];omega
   have f:(l.drop (l.length / 2)).length=l.length-l.length / 2:=by rw[List.length_drop]
   have c:=vM n (l.take (l.length / 2)) (by omega) (λx a=>hb x (List.mem_of_mem_take a));have d:=vM n (l.drop (l.length / 2)) (by omega) (λx a=>hb x (List.mem_of_mem_drop a));exact nE _ _ _ (Nat.le_refl _) c d
theorem gz.base {w c d:World}{v:Value}{zs:List Ent}(h:gz c d v zs)(hb:w.heap.size<=c.heap.size):gz w d v zs:=by
 obtain⟨f,a,j⟩:=h;refine⟨f,⟨a.1,?_⟩,j.mono λk b=>⟨Nat.le_trans hb b.1,b.2⟩⟩;rcases a.2 with h|⟨g,cap,i,e,l,r⟩
 ·exact .inl h
 ·exact .inr ⟨g,cap,i,e,Nat.le_trans hb l,r⟩
def Fs (xs:List Ent)(m:Int)(zs:List Ent):Prop:=(m=2/\jv 0 (jD xs)=true/\zs=[])\/(m=0/\jv 0 (jD xs)=false/\zs=jw (jD xs))
theorem NN (w:World)(A:Option Addr)(n c:Nat)(xs:List Ent)(a:In w A n c xs)(s:n<=1048576)(hb:vN 65536 xs)(i: ∀x∈xs,x.row.length<=12):
  Calls Tryz.prog 73 #[.slice A n c] w
   λe w'=>(∃v m zs,e=.returned (.tuple #[v,.int .i64 m])/\gz w w' v zs/\Fs xs m zs)/\Below w.heap.size w w':=by
 have y:=a.le;have z:=Hm a.len;have hs:=zS 65536 (by omega) (by omega) n w A n c xs (Nat.le_refl _) s a hb;have r:=rM _ xs (Nat.le_refl _);rw[a.len]at r;have t:=Hm (vM (P:=λl=>l.length<=4096) _ xs (Nat.le_refl _) (λx a=>Nat.le_trans (i x a) (by omega)));clear i hb;go_enter Tryz.func73,Tryz.ntmps73;go_wp2_with fail;refine hs.mono ?_;rintro e u ⟨⟨B,d,rfl,g⟩,b⟩;go_wp2_with fail;refine(Gw u B _ d (jD xs) g (by omega) t.o).mono ?_;rintro e C ⟨⟨v,m,zs,rfl,f,h⟩,p⟩;have q:=fH b p;have j:=Hm (f.base b.size);have k:Hl (Fs xs m zs):=Hm h;clear f h g;go_wp2;go_ret2;exact⟨⟨_,_,zs,rfl,j.o,k.o⟩,q⟩
def yJ (xs:List Ent)(m:Int)(zs:List Ent):Prop:=
 (fQ (λ_ x=>ib x) 0 xs≠0/\m=fQ (λ_ x=>ib x) 0 xs/\zs=[])\/(fQ (λ_ x=>ib x) 0 xs=0/\Fs xs m zs)
theorem Ea: ∀{xs:List Ent} {k:Nat},fQ (λ_ x=>ib x) k xs=0->vN 65536 xs/\ ∀x∈xs,x.row.length<=12
 | [],_,_=>⟨(λx h=>by cases h),(λx h=>by cases h)⟩
 |x::xs,k,h=>by
  have b:ib x=0:=by
   rw[fQ]at h;by_cases c:ib x=0
   ·exact c
   ·rw[if_pos c]at h;exact h
  rw[ig b]at h;obtain⟨d,f⟩:=Ea h;rw[pX]at b;have g:¬(12<x.row.length\/x.count < -65536\/65536<x.count):=λe=>by rw[if_pos e]at b;omega
  refine⟨λz a=>?_,λz a=>?_⟩
  ·cases a with
   |head=>omega
   |tail _ a=>exact d z a
  ·cases a with
   |head=>omega
   |tail _ a=>exact f z a
theorem AQ (w:World)(A:Option Addr)(n c:Nat)(xs:List Ent)(f:In w A n c xs)(G:n<=1048576):
  Calls Tryz.prog 44 #[.slice A n c] w
   λe w'=>(∃v m zs,e=.returned (.tuple #[v,.int .i64 m])/\gz w w' v zs/\yJ xs m zs)/\Below w.heap.size w w':=by
 have H:=f.le;have K:=Hm f.len;go_enter Tryz.func44,Tryz.ntmps44;go_wp2;go_loopw [4] (λi wr=> ∃k:Nat,k<=n/\i=.int .i64 k/\fQ (λ_ x=>ib x) 0 xs=fQ (λ_ x=>ib x) k (xs.drop k)/\Below w.heap.size w wr) (λi _=>n-(intOf i).toNat)
 case atStart=>exact⟨0,Nat.zero_le _,rfl,rfl,Below.refl _ _⟩
 case round=>
  obtain⟨k,J,rfl,q,hb⟩:=hrel;have h:=Hm q;clear q;by_cases F:k<n
  ·obtain⟨b,off,x,rfl,I,j,A2,n2,c2,z,f1,l,B⟩:=(f.below hb).ent F;have C:=Hm B;go_wp2_with fail;refine(BI wr A2 n2 c2 x l C.o).mono ?_;rintro e M ⟨rfl,p⟩;have g:=fH hb p;clear p z f1 l;by_cases d:ib x=0
   ·have a:Hl (fQ (λ_ x=>ib x) 0 xs=fQ (λ_ x=>ib x) (k+1) (xs.drop (k+1))):=Hm (by rw[h.o,j.o];exact ig d);rw[d];go_wp2;go_roundw
    case rel=>exact⟨k+1,by omega,by go_num,a.o,g⟩
    case measure=>simp[intOf];omega
   ·have a:Hl (fQ (λ_ x=>ib x) 0 xs=ib x):=Hm (by rw[h.o,j.o];exact gL rfl d);have L:(ib x==0)=false:=by simpa using d
    generalize ib x=m at*;go_wp2;all_goals(try(exfalso;go_light;simp_all;done));go_ret2;exact⟨⟨_,_,[],rfl,⟨[],World.ownsRow_nil _ _ _ _,rfl⟩,.inl ⟨by rw[a.o];exact d,a.o.symm,rfl⟩⟩,g⟩
  ·have a:Hl (fQ (λ_ x=>ib x) 0 xs=0):=Hm (by rw[h.o,gG f.len (by omega),fQ]);have s:=Hm (Ea a.o);have E:=Hm (f.below hb);go_wp2_with fail;refine(NN wr A n c xs E.o G s.o.1 s.o.2).mono ?_;rintro e N ⟨⟨v,m,zs,rfl,r,t⟩,D⟩;have g:=fH hb D;have u:=Hm (r.base hb.size);have y:=Hm t;clear r t;go_wp2;go_ret2;exact⟨⟨_,_,zs,rfl,u.o,.inr ⟨a.o,y.o⟩⟩,g⟩
end Go.Proofs.YtopjjlmfilgngaaGreatDoor
