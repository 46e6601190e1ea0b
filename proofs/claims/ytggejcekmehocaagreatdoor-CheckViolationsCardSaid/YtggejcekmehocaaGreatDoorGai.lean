/-
  warehouseref6.merge. warehouseref6.sorted. warehouseref6.result: the entries with counts that are not 0, with rows in new memory. warehouseref6.Sum and Normalize. warehouseref22.SameRow, SameEntries; warehouselaw22.sameParts; warehouseworld.Within.
-/
import Derived.Test.YtggejcekmehocaaGreatDoorGac
import Derived.Test.YtggejcekmehocaaGreatDoorGad
import Derived.Test.YtggejcekmehocaaGreatDoorGaa
import Derived.Test.YtggejcekmehocaaGreatDoorGah
namespace Go.Proofs.YtggejcekmehocaaGreatDoor
set_option maxHeartbeats 2000000
set_option maxRecDepth 100000
open Go.RowKit
set_option linter.unusedSimpArgs false
set_option linter.unusedVariables false
theorem D6:(Tryz.prog.info? 61).map (λi=>(i.zero,i.size,i.bytes))=some (some (.agg #[.slice none 0 0,.int .i64 0]),2,32):=by kernel_rfl
structure OwnEnts (w w':World) (S:Nat->Prop) (v:Value) (zs:List Ent):Prop where
 own: ∃cs,w'.ownsRow w.heap.size 61 2 v zs.length cs/\Cells w' S cs zs
theorem Pm {A:Option Addr}{n c:Nat}{m:Int}: ∀u∈[Value.slice A n c,Value.int .i64 m],u.oneCell'=true:=by
 intro u hu
 simp at hu
 rcases hu with rfl|rfl <;> rfl
theorem Po {w:World}{b o:Nat}{v0 v1:Value}(h0:w.cell? ⟨b,o,none⟩=some v0)(h1:w.cell? ⟨b,o+1,none⟩=some v1):Src w 2 (some ⟨b,o,none⟩) 1 [v0,v1]:=
 ⟨rfl,λ_=>⟨b,o,rfl,λj u hu=>by
  match j,hu with
  | 0,hu=>simp at hu;subst hu;exact h0
  | 1,hu=>simp at hu;subst hu;exact h1⟩⟩
theorem MN {w:World}{base:Nat}{e:TypeId}{size:Nat}{v:Value}{n:Nat}{xs:List Value}(h:w.ownsRow base e size v n xs):w.drew.ownsRow base e size v n xs:=h
theorem ET {w w':World}{base:Nat}{e:TypeId}{size:Nat}{v:Value}{n:Nat}{xs:List Value}(h:w.ownsRow base e size v n xs)(hk: ∀g,v.ownBlock=some g->w'.heap[g]?=w.heap[g]?):w'.ownsRow base e size v n xs:=by
 refine ⟨h.1,?_⟩
 rcases h.2 with h2|⟨g,cap,cur,rfl,hg,hh,r⟩
 ·exact .inl h2
 ·exact .inr ⟨g,cap,cur,rfl,hg,by rw[hk g rfl];exact hh,r⟩
theorem OwnEnts.any {w w':World}{S:Nat->Prop}{v:Value}{zs:List Ent}(h:OwnEnts w w' S v zs){n:Nat}:OwnEnts w (w'.drewN n) S v zs:=by
 obtain ⟨cs,h1,h2⟩:=h.own
 exact ⟨cs,h1,Cells.keep (show Same S w' (w'.drewN n) from λ_ _=>rfl) h2⟩
theorem Sl.tail {α:Type}[Rep α]{w:World}{S:Nat->Prop}{A:Option Addr}{n c k:Nat}{xs:List α}(h:Sl w S A n c xs)(hk:k<=n):
  Sl w S (if c=k then A else A.map (·.add (k*Rep.size α))) (n-k) (c-k) (xs.drop k):=by
 refine ⟨by rw[List.length_drop,h.1],by have:=h.2.1;omega,by have:=h.2.2.1;omega,λhA=>?_,λhn=>?_⟩
 ·by_cases hc:c=k
  ·omega
  ·rw[if_neg hc]at hA
   have:=h.2.2.2.1 (by cases A with|none=>rfl|some a=>cases hA)
   omega
 ·obtain ⟨b,off,e,hb,hi⟩:=h.2.2.2.2 (by omega)
  have:=h.2.1
  rw[if_neg (by omega),e]
  refine ⟨b,off+k*Rep.size α,by rw[Option.map_some,pq],hb,λi hi'=>?_⟩
  rw[List.length_drop]at hi'
  have:=hi (k+i) (by omega)
  rw[List.getElem_drop,show off+k*Rep.size α+i*Rep.size α=off+(k+i)*Rep.size α from by rw[Nat.add_mul];omega]
  exact this
theorem OwnEnts.add {w wr w1:World}{S:Nat->Prop}{v1:Value}{zs:List Ent}{cs:List Value}{x:Ent}{A:Option Addr}{n c:Nat}(hS: ∀k,S k->k<w.heap.size)(hc:Cells wr S cs zs)(hx:Sl w S A n c x.row)(h64:ig x.count)(hb:Below w.heap.size w wr)(hw:Below w.heap.size wr w1)(hown:w1.ownsRow w.heap.size 61 2 v1 (zs.length+1) (cs++[.slice A n c,.int .i64 x.count])):OwnEnts w w1 S v1 (zs++[x]):=by
 have h1:Same S wr w1:=(Same.below hw).sub hS
 have h2:Same S w w1:=(Same.below (hb.trans hw)).sub hS
 have h3:Rep.rd w1 S [.slice A n c,.int .i64 x.count] x:=⟨A,n,c,rfl,hx.keep h2,h64⟩
 exact ⟨_,by rw[List.length_append];exact hown,Cells.app (Cells.one h3) (hc.keep h1)⟩
theorem Nt.tail {C:Int}{us l:List Ent}{x:Ent}(h:Nt C us)(e:us.drop 0=x :: l):Nt C l/\(-C<=x.count/\x.count<=C):=by
 rw[List.drop_zero]at e
 subst e
 exact ⟨λy hy=>h y (List.mem_cons_of_mem _ hy),h x (List.mem_cons_self ..)⟩
theorem Sl.head {α:Type}[Rep α]{w:World}{S:Nat->Prop}{A:Option Addr}{n c k:Nat}{xs:List α}(h:Sl w S A n c xs)(hk:k<=n):Sl w S A k c (xs.take k):=by
 refine ⟨by rw[List.length_take,h.1];omega,by have:=h.2.1;omega,h.2.2.1,h.2.2.2.1,λhn=>?_⟩
 obtain ⟨b,off,e,hb,hi⟩:=h.2.2.2.2 (by omega)
 refine ⟨b,off,e,hb,λi hi'=>?_⟩
 rw[List.length_take]at hi'
 rw[List.getElem_take]
 exact hi i (by omega)
theorem OwnEnts.sl {w w':World}{S:Nat->Prop}{v:Value}{zs:List Ent}(h:OwnEnts w w' S v zs)(hS: ∀k,S k->k<w'.heap.size): ∃A c,v=.slice A zs.length c/\In w' A zs.length c zs:=by
 obtain ⟨cs,h1,h2⟩:=h.own
 obtain ⟨A,c,e,hs,_⟩:=lg (T:=λk=>k<w'.heap.size) h1 h2 hS rfl (λg _ hg=>hg.lt)
 exact ⟨A,c,e,hs⟩
theorem Nt.take {C:Int}{l:List Ent}(h:Nt C l)(k:Nat):Nt C (l.take k):=λx hx=>h x (List.mem_of_mem_take hx)
theorem Nt.drop {C:Int}{l:List Ent}(h:Nt C l)(k:Nat):Nt C (l.drop k):=λx hx=>h x (List.mem_of_mem_drop hx)
theorem MO {w:World}{base:Nat}{e:TypeId}{size:Nat}{v:Value}{n:Nat}{xs:List Value}(h:w.ownsRow base e size v n xs){g:Nat}(hg:v.ownBlock=some g):gG w e g:=by
 rcases h.2 with ⟨rfl,_⟩|⟨g',cap,cur,rfl,_,hh,_⟩
 ·simp[Value.ownBlock]at hg
 ·simp[Value.ownBlock]at hg
  subst hg
  exact ⟨cur,hh⟩
def bz (w w':World)(v:Value)(zs:List Ent):Prop:= ∃cs,w'.ownsRow w.heap.size 61 2 v zs.length cs/\Cells w' (New w w' 74) cs zs
theorem MF {w w0 w1:World}{v:Value}{base n:Nat}{cs:List Value}(hown:w0.ownsRow base 61 2 v n cs)(hs: ∀k,k<w0.heap.size->v.ownBlock≠some k->w1.heap[k]?=w0.heap[k]?):
  Same (New w w0 74) w0 w1/\ ∀k,New w w0 74 k->New w w1 74 k:=by
 have h1:Same (New w w0 74) w0 w1:=λk hk=>hs k hk.2.lt λe=>by
  have h2:=MO hown e
  exact gG.ne h2 hk.2 (by decide) rfl
 refine ⟨h1,λk hk=>⟨hk.1,?_⟩⟩
 obtain ⟨c,hc⟩:=hk.2
 exact ⟨c,(h1 k hk).trans hc⟩
theorem bz.below {w w' w1:World}{v:Value}{zs:List Ent}(h:bz w w' v zs)(hb:Below w'.heap.size w' w1):bz w w1 v zs:=by
 obtain ⟨cs,h1,h2⟩:=h
 refine ⟨cs,ET h1 (λg hg=>hb.block g (h1.lt g hg).2),(h2.keep ((Same.below hb).sub λk hk=>hk.2.lt)).mono λk hk=>⟨hk.1,hk.2.below hb⟩⟩
theorem bz.sl {w w':World}{v:Value}{zs:List Ent}(h:bz w w' v zs): ∃A c,v=.slice A zs.length c/\In w' A zs.length c zs:=by
 obtain ⟨cs,h1,h2⟩:=h
 obtain ⟨A,c,e,hs,_⟩:=lg (T:=λk=>k<w'.heap.size) h1 h2 (λk hk=>hk.2.lt) rfl (λg _ hg=>hg.lt)
 exact ⟨A,c,e,hs⟩
theorem bz.add {w w0 w1:World}{v v1:Value}{zs:List Ent}{cs:List Value}{x:Ent}{A:Option Addr}{n c:Nat}(hown:w0.ownsRow w.heap.size 61 2 v zs.length cs)(hc:Cells w0 (New w w0 74) cs zs)(hx:Sl w0 (New w w0 74) A n c x.row)(h64:ig x.count)(hs: ∀k,k<w0.heap.size->v.ownBlock≠some k->w1.heap[k]?=w0.heap[k]?)(hown1:w1.ownsRow w.heap.size 61 2 v1 (zs.length+1) (cs++[.slice A n c,.int .i64 x.count])):bz w w1 v1 (zs++[x]):=by
 obtain ⟨h1,h2⟩:=MF (w:=w) hown hs
 have h3:Rep.rd w1 (New w w1 74) [.slice A n c,.int .i64 x.count] x:=⟨A,n,c,rfl,(hx.keep h1).mono h2,h64⟩
 exact ⟨_,by rw[List.length_append];exact hown1,Cells.app (Cells.one h3) ((hc.keep h1).mono h2)⟩
theorem tL: ∀{xs:List Val} {w:World} {S:Nat->Prop} {cs:List Value},Cells w S cs xs-> ∀u∈cs,u.oneCell'=true
 | [],_,_,_,h,u,hu=>by rw[show _=[] from h]at hu;cases hu
 |x :: xs,_,_,_,⟨c0,c1,rfl,h0,h1⟩,u,hu=>by
  rcases List.mem_append.1 hu with h|h
  ·have e:c0=x.cells:=h0.1
   rw[e]at h
   simp[Val.cells]at h
   rcases h with rfl|rfl|rfl <;> rfl
  ·exact tL h1 u h
theorem nT: ∀{xs:List Val} {w w':World} {S T:Nat->Prop} {cs:List Value},Cells w S cs xs->Cells w' T cs xs
 | [],_,_,_,_,_,h=>h
 |x :: xs,_,_,_,_,_,⟨c0,c1,e,h0,h1⟩=>⟨c0,c1,e,h0,nT h1⟩
theorem bz.base {w w0 w1:World}{v:Value}{zs:List Ent}(h:bz w0 w1 v zs)(hb:w.heap.size<=w0.heap.size):bz w w1 v zs:=by
 obtain ⟨cs,h1,h2⟩:=h
 refine ⟨cs,⟨h1.1,?_⟩,h2.mono λk hk=>⟨Nat.le_trans hb hk.1,hk.2⟩⟩
 rcases h1.2 with h|⟨g,cap,cur,e,hg,r⟩
 ·exact .inl h
 ·exact .inr ⟨g,cap,cur,e,Nat.le_trans hb hg,r⟩
theorem BJ {α:Type}{xs ys:List α}{k:Nat}{x:α}{l m:List α}(h:xs.take k=ys.take k)(hx:xs.drop k=x :: l)(hy:ys.drop k=x :: m):xs.take (k+1)=ys.take (k+1):=by
 rw[bP hx,bP hy,h]
theorem E8 {α:Type}{xs ys:List α}{n:Nat}(h:xs.take n=ys.take n)(hx:xs.length=n)(hy:ys.length=n):xs=ys:=by
 rw[List.take_of_length_le (by omega),List.take_of_length_le (by omega)]at h
 exact h
theorem Cs {α:Type}{xs ys:List α}{k:Nat}{x y:α}{l m:List α}(hx:xs.drop k=x :: l)(hy:ys.drop k=y :: m)(hne:x≠y):xs≠ys:=λe=>by
 rw[e,hy]at hx
 injection hx with hx
 exact hne hx.symm
theorem RL {a b c d:Int}{s t:ByteArray}:(⟨a,c,s⟩:Val)=⟨b,d,t⟩↔a=b/\c=d/\s=t:=by
 constructor
 ·intro h;injection h with h1 h2 h3;exact ⟨h1,h2,h3⟩
 ·rintro ⟨rfl,rfl,rfl⟩;rfl
theorem Pj (w:World)(a a' b b':Int)(s s':ByteArray):(binOp .neq 74 (.agg #[.int .i64 a,.int .i64 b,.string s]) (.agg #[.int .i64 a',.int .i64 b',.string s'])).run Tryz.prog w=.ok (.bool (!(a==a'&&b==b'&&s.toList==s'.toList))) w:=by
 have u1:=Tryz.underlying3
 have u2:=Tryz.underlying9
 have a1:=Tryz.isAgg3
 have a2:=Tryz.isAgg9
 have z1:=Tryz.sizeOf3
 have z2:=Tryz.sizeOf9
 have hS:Tryz.prog.underlying 74=some (.struct (Tryz.prog.fieldsOf 74)):=by kernel_rfl
 have hp:Tryz.prog.stoodInHeld 74=false:=by kernel_rfl
 rw[run_neq_struct,show (10000:Nat)=9999+1 from rfl,run_equalIn_agg w 9999 74 _ _ hS hp]
 simp only[Program.fieldsOf,Tryz.underlying74]
 go_simp
 by_cases h1:a=a' <;> by_cases h2:b=b' <;> by_cases h3:s.toList=s'.toList <;> simp[h1,h2,h3]
theorem Pv {a a' b b':Int}{s s':ByteArray}:(a==a'&&b==b'&&s.toList==s'.toList)=true↔(⟨a,b,s⟩:Val)=⟨a',b',s'⟩:=by
 rw[RL,Bool.and_eq_true,Bool.and_eq_true,beq_iff_eq,beq_iff_eq,beq_iff_eq,and_assoc,ByteArray.toList_eq,ByteArray.toList_eq]
 constructor
 ·rintro ⟨h1,h2,h3⟩
  refine ⟨h1,h2,?_⟩
  obtain ⟨⟨x⟩⟩:=s
  obtain ⟨⟨y⟩⟩:=s'
  simp at h3
  rw[h3]
 ·rintro ⟨rfl,rfl,rfl⟩
  exact ⟨rfl,rfl,rfl⟩
theorem rQ (w:World)(A A2:Option Addr)(n n2 c c2:Nat)(xs ys:List Val)(hx:In w A n c xs)(hy:In w A2 n2 c2 ys):
  Calls Tryz.prog 44 #[.slice A n c,.slice A2 n2 c2] w λe w'=>(∃r,e=.returned (.bool r)/\(r=true↔xs=ys))/\Below w.heap.size w w':=by
 have h63:=hx.le
 have hm:Tryz.prog.eqGuardType Tryz.prog.depth 74=false:=by kernel_rfl
 have hlx:=hide hx.len
 have Uy:=hide hy.len
 by_cases hl:n=n2
 ·subst hl
  go_enter Tryz.func44,Tryz.ntmps44
  go_wp2
  all_goals (try (exfalso;go_light;simp_all;done))
  go_loopw [5] (λi wr=> ∃k:Nat,k<=n/\i=.int .i64 k/\xs.take k=ys.take k/\Below w.heap.size w wr) (λi _=>n-(intOf i).toNat)
  case atStart=>exact ⟨0,Nat.zero_le _,rfl,rfl,Below.refl _ _⟩
  case round=>
   obtain ⟨k,hk,rfl,heq,hb⟩:=hrel
   have HE:=hide heq
   have HB:=hide hb
   clear heq
   by_cases hlt:k<n
   ·obtain ⟨b,off,x,rfl,hB,HX,e0,e1,e2,e3⟩:=(hx.below hb).val hlt
    obtain ⟨b',off',y,rfl,hB',HY,f0,f1,f2,f3⟩:=(hy.below hb).val hlt
    have k0:(0:Int)<=(k:Int):=by omega
    have k1:(k:Int)<(n:Int):=by omega
    obtain ⟨xk,xn,xs'⟩:=x
    obtain ⟨yk,yn,ys'⟩:=y
    simp only at e0 e1 e2 f0 f1 f2
    have HQ:=hide (Pv (a:=xk) (a':=yk) (b:=xn) (b':=yn) (s:=xs') (s':=ys'))
    have kq:=λW=>Pj W xk yk xn yn xs' ys'
    cases hr:(xk==yk&&xn==yn&&xs'.toList==ys'.toList)
    ·have HN:Hid (xs≠ys):=hide (Cs HX.out HY.out λe=>by rw[HQ.out.2 e]at hr;cases hr)
     rw[hr]at kq
     clear hr HQ
     go_wp2
     go_quiet (fail)
     go_wp2
     go_ret
     exact ⟨⟨false,rfl,(λh=>by cases h),λh=>absurd h HN.out⟩,bY HB.out⟩
    ·have hv:=HQ.out.1 hr
     rw[hr]at kq
     have HN:Hid (xs.take (k+1)=ys.take (k+1)):=hide (BJ HE.out HX.out (by rw[hv];exact HY.out))
     clear hr HQ hv
     go_wp2
     go_quiet (fail)
     go_wp2
     go_roundw
     case rel=>exact ⟨k+1,by omega,by go_num,HN.out,bY HB.out⟩
     case measure=>simp[intOf];omega
   ·have HN:=hide (E8 (n:=k) HE.out (by rw[hlx.out];omega) (by rw[Uy.out];omega))
    go_wp2
    go_ret
    exact ⟨⟨true,rfl,λ_=>HN.out,λ_=>rfl⟩,HB.out⟩
 ·have HN:Hid (xs≠ys):=hide λe=>hl (by rw[<-hlx.out,<-Uy.out,e])
  have q:((n:Int) != (n2:Int))=true:=by simp;omega
  clear hl
  go_enter Tryz.func44,Tryz.ntmps44
  go_wp2
  all_goals (try (exfalso;go_light;simp_all;done))
  go_ret
  exact ⟨⟨false,rfl,(λh=>by cases h),λh=>absurd h HN.out⟩,Below.refl _ _⟩
theorem F6 {r r':List Val}{a b:Int}:(⟨r,a⟩:Ent)=⟨r',b⟩↔r=r'/\a=b:=by
 constructor
 ·intro h;injection h with h1 h2;exact ⟨h1,h2⟩
 ·rintro ⟨rfl,rfl⟩;rfl
theorem Di (w:World)(A A2:Option Addr)(n n2 c c2:Nat)(xs ys:List Ent)(hx:In w A n c xs)(hy:In w A2 n2 c2 ys):
  Calls Tryz.prog 19 #[.slice A n c,.slice A2 n2 c2] w λe w'=>(∃r,e=.returned (.bool r)/\(r=true↔xs=ys))/\Below w.heap.size w w':=by
 have h63:=hx.le
 have hlx:=hide hx.len
 have Uy:=hide hy.len
 by_cases hl:n=n2
 ·subst hl
  go_enter Tryz.func19,Tryz.ntmps19
  go_wp2
  all_goals (try (exfalso;go_light;simp_all;done))
  go_loopw [5] (λi wr=> ∃k:Nat,k<=n/\i=.int .i64 k/\xs.take k=ys.take k/\Below w.heap.size w wr) (λi _=>n-(intOf i).toNat)
  case atStart=>exact ⟨0,Nat.zero_le _,rfl,rfl,Below.refl _ _⟩
  case round=>
   obtain ⟨k,hk,rfl,heq,hb⟩:=hrel
   have HE:=hide heq
   have HB:=hide hb
   clear heq
   by_cases hlt:k<n
   ·obtain ⟨b,off,x,rfl,hB,HX,A3,n3,c3,e0,e1,e2,e3⟩:=(hx.below hb).ent hlt
    obtain ⟨b',off',y,rfl,hB',HY,A4,n4,c4,f0,f1,f2,f3⟩:=(hy.below hb).ent hlt
    have k0:(0:Int)<=(k:Int):=by omega
    have k1:(k:Int)<(n:Int):=by omega
    have E0:=hide e0
    have E1:=hide e1
    have F0:=hide f0
    have F1:=hide f1
    have yj:=hide hB
    have Yc:=hide hB'
    obtain ⟨xr,xc⟩:=x
    obtain ⟨yr,yc⟩:=y
    simp only at e1 f1 e2 f2
    by_cases hcc:xc=yc
    ·have q:(xc != yc)=false:=by simp[hcc]
     have RP:=hide hcc
     clear hcc
     go_wp2
     go_region_held3 (λV=>V.cell? ⟨b,off+k*2,none⟩=some (.slice A3 n3 c3)/\V.cell? ⟨b,off+k*2+1,none⟩=some (.int .i64 xc)/\V.cell? ⟨b',off'+k*2,none⟩=some (.slice A4 n4 c4)/\V.cell? ⟨b',off'+k*2+1,none⟩=some (.int .i64 yc))
      (first|exact ⟨e0,e1,f0,f1⟩|exact ⟨ah HB2.out yj.out E0.out,ah HB2.out yj.out E1.out,ah HB2.out Yc.out F0.out,ah HB2.out Yc.out F1.out⟩)
      (first|(go_at_call 44;refine (rQ _ A3 A4 n3 n4 c3 c4 xr yr (by exact e2.below (Below.refl _ _).drew) (by exact f2.below (Below.refl _ _).drew)).mono ?_;rintro e w2 ⟨⟨r,rfl,hr⟩,hb2⟩;have HR:=hide hr;have HB2:=hide (ag hb2);clear hb2 hr))
     have PD:=hide (aa HB.out HB2.out)
     cases r
     ·have HN:Hid (xs≠ys):=hide (Cs HX.out HY.out λe=>by have:=HR.out.2 (F6.1 e).1;cases this)
      go_wp2
      all_goals (try (exfalso;go_light;simp_all;done))
      go_ret
      exact ⟨⟨false,rfl,(λh=>by cases h),λh=>absurd h HN.out⟩,PD.out⟩
     ·have HN:Hid (xs.take (k+1)=ys.take (k+1)):=hide (BJ HE.out HX.out (by rw[F6.2 ⟨HR.out.1 rfl,RP.out⟩];exact HY.out))
      go_wp2
      all_goals (try (exfalso;go_light;simp_all;done))
      go_roundw
      case rel=>exact ⟨k+1,by omega,by go_num,HN.out,PD.out⟩
      case measure=>simp[intOf];omega
    ·have HN:Hid (xs≠ys):=hide (Cs HX.out HY.out λe=>hcc (F6.1 e).2)
     have q:(xc != yc)=true:=by simpa using hcc
     clear hcc
     go_wp2
     go_quiet (fail)
     go_wp2
     all_goals (try (exfalso;go_light;simp_all;done))
     go_ret
     exact ⟨⟨false,rfl,(λh=>by cases h),λh=>absurd h HN.out⟩,bY HB.out⟩
   ·have HN:=hide (E8 (n:=k) HE.out (by rw[hlx.out];omega) (by rw[Uy.out];omega))
    go_wp2
    go_ret
    exact ⟨⟨true,rfl,λ_=>HN.out,λ_=>rfl⟩,HB.out⟩
 ·have HN:Hid (xs≠ys):=hide λe=>hl (by rw[<-hlx.out,<-Uy.out,e])
  have q:((n:Int) != (n2:Int))=true:=by simp;omega
  clear hl
  go_enter Tryz.func19,Tryz.ntmps19
  go_wp2
  all_goals (try (exfalso;go_light;simp_all;done))
  go_ret
  exact ⟨⟨false,rfl,(λh=>by cases h),λh=>absurd h HN.out⟩,Below.refl _ _⟩
end Go.Proofs.YtggejcekmehocaaGreatDoor
