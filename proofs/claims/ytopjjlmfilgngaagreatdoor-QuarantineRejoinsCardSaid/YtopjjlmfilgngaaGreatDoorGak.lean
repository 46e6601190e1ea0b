/-
  warehouseref6.sorted. warehouseref6.result: the entries with counts that are not 0, with rows in new memory.
-/
import Derived.Test.YtopjjlmfilgngaaGreatDoorMerge
import Derived.Test.YtopjjlmfilgngaaGreatDoorGad
namespace Go.Proofs.YtopjjlmfilgngaaGreatDoor
set_option maxHeartbeats 4000000
set_option maxRecDepth 100000
open Go.RowKit
set_option linter.unusedSimpArgs false
set_option linter.unusedVariables false
theorem cells_one: ∀{xs:List Ent} {w:World} {S:Nat->Prop} {cs:List Value},Cells w S cs xs-> ∀u∈cs,u.oneCell'=true
 | [],_,_,_,h,u,hu=>by rw[show _=[] from h]at hu;cases hu
 |x :: xs,_,_,_,⟨c0,c1,rfl,h0,h1⟩,u,hu=>by
  rcases List.mem_append.1 hu with h|h
  ·obtain ⟨A,n,c,e,_,_⟩:=h0;rw[e]at h;exact jI u h
  ·exact cells_one h1 u h
theorem Sl.head {α:Type}[Rep α]{w:World}{S:Nat->Prop}{A:Option Addr}{n c k:Nat}{xs:List α}(h:Sl w S A n c xs)(hk:k<=n):Sl w S A k c (xs.take k):=by
 refine ⟨by rw[List.length_take,h.1];omega,by have:=h.2.1;omega,h.2.2.1,h.2.2.2.1,λhn=>?_⟩;obtain ⟨b,off,e,hb,hi⟩:=h.2.2.2.2 (by omega);refine ⟨b,off,e,hb,λi hi'=>?_⟩;rw[List.length_take]at hi';rw[List.getElem_take];exact hi i (by omega)
theorem OwnEnts.sl {w w':World}{S:Nat->Prop}{v:Value}{zs:List Ent}(h:OwnEnts w w' S v zs)(hS: ∀k,S k->k<w'.heap.size): ∃A c,v=.slice A zs.length c/\In w' A zs.length c zs:=by
 obtain ⟨cs,h1,h2⟩:=h.own;obtain ⟨A,c,e,hs,_⟩:=dX (T:=λk=>k<w'.heap.size) h1 h2 hS rfl (λg _ hg=>hg.lt);exact ⟨A,c,e,hs⟩
theorem pW (w:World)(A:Option Addr)(n c:Nat)(xs:List Ent)(hx:In w A n c xs)(hn:n<2):
  Calls Tryz.prog 101 #[.slice A n c] w
   λe w'=>(∃B d,e=.returned (.slice B (bz xs).length d)/\In w' B (bz xs).length d (bz xs))/\Below w.heap.size w w':=by
 obtain ⟨i0,hi,hz0,hz1,hz2⟩:=info_parts lX;obtain ⟨cs,hcs,hsrc⟩:=Sl.cells hx;have HL:=hide hx.len;have hA:A=none->n=0:=λh=>by have:=hx.2.2.2.1 h;have:=hx.2.1;omega
 have h1:=cells_one hcs;have HS:=hide (jJ (l:=xs) (by rw[hx.len];exact hn));go_enter Tryz.func101,Tryz.ntmps101;go_wp2_with (at_builtin;refine ed _ rfl (.const (.slice none 0 0)) (.tmp 6) 27 rfl w.heap.size 50 i0 _ 2 32 Tryz.underlying27 hi hz0 hz1 hz2 rfl (by decide) (.slice none 0 0) 0 [] rfl (World.ownsRow_nil _ _ _ _) A n c cs rfl hA hsrc h1 (by simp only[maxLen];omega) (by omega) (Nat.le_refl _) ?_;intro v1 w1 hown1 hg1 nE);have hw1:Below w.heap.size w w1:=(Below.refl _ _).grown hg1 (Nat.le_refl _) (by simp[Value.ownBlock]);have HO:Hid (OwnEnts w w1 (λk=>k<w.heap.size) v1 (bz xs)):=hide (by
  rw[HS.out];exact ⟨_,by rw[HL.out];simpa using hown1,hcs.keep (Same.below hw1)⟩)
 obtain ⟨B,d,hv,hin⟩:=HO.out.sl (λk hk=>Nat.lt_of_lt_of_le hk hw1.size);have HV:=hide hv;have HN:=hide hin;clear hown1 hg1 nE hv hin;go_wp2;go_ret;exact ⟨⟨B,d,by rw[HV.out];rfl,HN.out⟩,hw1⟩
theorem oK.take {C:Int}{l:List Ent}(h:oK C l)(k:Nat):oK C (l.take k):=λx hx=>h x (List.mem_of_mem_take hx)
theorem oK.drop {C:Int}{l:List Ent}(h:oK C l)(k:Nat):oK C (l.drop k):=λx hx=>h x (List.mem_of_mem_drop hx)
theorem uB (C:Int)(hC0:0<=C)(hC1:C<=1099511627776): ∀(N:Nat) (w:World) (A:Option Addr) (n c:Nat) (xs:List Ent),n<=N->n<=1048576->In w A n c xs->oK C xs->
  Calls Tryz.prog 101 #[.slice A n c] w
   λe w'=>(∃B d,e=.returned (.slice B (bz xs).length d)/\In w' B (bz xs).length d (bz xs))/\Below w.heap.size w w'
 | 0,w,A,n,c,xs,hN,hM,hx,hb=>pW w A n c xs hx (by omega)
 |N+1,w,A,n,c,xs,hN,hM,hx,hb=>by
  by_cases hn:n<2
  ·exact pW w A n c xs hx hn
  have ih:=uB C hC0 hC1 N;obtain ⟨k,hk⟩: ∃k,n / 2=k:=⟨_,rfl⟩;have hk1:1<=k:=by omega
  have hk2:k<n:=by omega
  have hki:(n:Int) / 2=(k:Int):=by omega
  have HK:=hide hk;have q0:Int.tdiv (n:Int) 2=(k:Int):=by rw[Int.tdiv_eq_ediv_of_nonneg (by omega)];exact hki
  have q1:IntKind.i64.wrap (k:Int)=(k:Int):=IntWalk.i64_in _ (by omega);have q2:(0:Int)<=(k:Int):=by omega
  have q3:(k:Int)<=(n:Int):=by omega
  have q4:(k:Int)<=(c:Int):=by have:=hx.cap;omega
  have q5:(n:Int)<=(c:Int):=by have:=hx.cap;omega
  have hcap:=hx.cap;obtain ⟨b,off,rfl,_,_⟩:=hx.2.2.2.2 (by omega);obtain ⟨A2,hA2⟩: ∃A2,(if c=k then some (⟨b,off,none⟩:Addr) else some ⟨b,off+k*2,none⟩)=A2:=⟨_,rfl⟩;have hL:=hide (Sl.head hx (k:=k) (by omega));have hR:Hid (In w A2 (n-k) (c-k) (xs.drop k)):=hide (by have h:=Sl.tail hx (k:=k) (by omega);rw[Option.map_some,gG]at h;rw[<-hA2];exact h);have HI:=hide ih;clear ih hk;go_enter Tryz.func101,Tryz.ntmps101;go_wp2_with fail;have HB:=hide hb;have HLEN:=hide hx.len;have lt:((xs.take k).length:Int)=k:=by rw[List.length_take,hx.len];omega
  have l1:=kv _ (xs.take k) (Nat.le_refl _);have l2:=kv _ (xs.drop k) (Nat.le_refl _);rw[List.length_drop,hx.len]at l2;have b1:=mX hC0 _ (xs.take k) (Nat.le_refl _) (oK.take hb k);have b2:=mX hC0 _ (xs.drop k) (Nat.le_refl _) (oK.drop hb k);rw[lt]at b1;rw[List.length_drop,hx.len]at b2;have HB1:=hide b1;have HB2:=hide b2;have lk:(bz (xs.take k)).length<=k:=by omega
  have HQ:=hide (lg (l:=xs) (by rw[hx.len];exact hn));have c1:C*(k:Int)<=1152921504606846976:=Int.le_trans (Int.mul_le_mul hC1 (show (k:Int)<=1048576 by omega) (by omega) (by omega)) (by omega);have c2:C*((n-k:Nat):Int)<=1152921504606846976:=Int.le_trans (Int.mul_le_mul hC1 (show ((n-k:Nat):Int)<=1048576 by omega) (by omega) (by omega)) (by omega);have c3:=Int.mul_nonneg hC0 (show (0:Int)<=(k:Int) by omega);have c4:=Int.mul_nonneg hC0 (show (0:Int)<=((n-k:Nat):Int) by omega);have HC:=hide (And.intro c1 (And.intro c2 (And.intro c3 c4)));have UD:=hide (λ(W:World) (hW:Below w.heap.size w W)=>HI.out W (some ⟨b,off,none⟩) k c (xs.take k) (by omega) (by omega) (In.below hL.out hW) (oK.take HB.out k));have UG:=hide (λ(W:World) (hW:Below w.heap.size w W)=>HI.out W A2 (n-k) (c-k) (xs.drop k) (by omega) (by omega) (In.below hR.out hW) (oK.drop HB.out k));have HM:=hide (λ(W:World) (B1 B2:Option Addr) (d1 d2:Nat) (h1:In W B1 (bz (xs.take k)).length d1 (bz (xs.take k))) (h2:In W B2 (bz (xs.drop k)).length d2 (bz (xs.drop k)))=>
   ww W B1 B2 _ _ d1 d2 _ _ h1 h2 (by omega) _ _ HC.out.2.2.1 HC.out.1 HC.out.2.2.2 HC.out.2.1 HB1.out HB2.out)
  clear hb lt b1 b2 c1 c2 c3 c4;go_region_held3 (λw'=>Below w.heap.size w w') (first|exact (Below.refl _ _).drew|exact hs3|exact hs2|exact hs1|go_keep) (first|(go_at_call 101;(with_reducible refine (UD.out _ ?_).mono ?_);exact (Below.refl _ _).drew;rintro e w1 ⟨⟨B1,d1,rfl,hin1⟩,hb1⟩;have hs1:=((Below.refl w.heap.size w).drew).trans hb1)|(go_at_call 101;(with_reducible refine (UG.out _ ?_).mono ?_);exact hs1;rintro e w2 ⟨⟨B2,d2,rfl,hin2⟩,hb2⟩;have hs2:=aa hs1 hb2;have hin1':=hin1.below hb2)|(go_at_call 47;(with_reducible refine (HM.out _ _ _ _ _ ?_ ?_).mono ?_);exact hin1';exact hin2;rintro e w3 ⟨⟨v3,rfl,hv3⟩,hb3⟩;have hs3:=aa hs2 hb3));have hq:bz xs=aL (bz (xs.take k)) (bz (xs.drop k)):=by
   have h:=HQ.out;rw[HLEN.out,HK.out]at h;exact h
  obtain ⟨B,d,hv,hin⟩:=hv3.sl (λk hk=>Nat.lt_of_lt_of_le hk hb3.size);have HV:=hide hv;have HN:Hid (In w3 B (bz xs).length d (bz xs)):=hide (by rw[hq];exact hin);have HL2:=hide (congrArg List.length hq);clear hv hin hq hv3 hb3 hb2 hb1 hin1 hin1' hin2;go_wp2;go_ret;refine ⟨⟨B,d,?_,HN.out⟩,by first|exact hs3|exact hs3.drew⟩;have e:=HV.out;rw[<-HL2.out]at e;exact congrArg Ending.returned e
theorem Gc {w:World}{base:Nat}{e:TypeId}{size:Nat}{v:Value}{n:Nat}{xs:List Value}(h:w.ownsRow base e size v n xs){g:Nat}(hg:v.ownBlock=some g):bi w e g:=by
 rcases h.2 with ⟨rfl,_⟩|⟨g',cap,cur,rfl,_,hh,_⟩
 ·simp[Value.ownBlock]at hg
 ·simp[Value.ownBlock]at hg;subst hg;exact ⟨cur,hh⟩
def ax (w w':World)(v:Value)(zs:List Ent):Prop:= ∃cs,w'.ownsRow w.heap.size 50 2 v zs.length cs/\Cells w' (New w w' 36) cs zs
theorem F7 {w w0 w1:World}{v:Value}{base n:Nat}{cs:List Value}(hown:w0.ownsRow base 50 2 v n cs)(hs: ∀k,k<w0.heap.size->v.ownBlock≠some k->w1.heap[k]?=w0.heap[k]?):
  Same (New w w0 36) w0 w1/\ ∀k,New w w0 36 k->New w w1 36 k:=by
 have h1:Same (New w w0 36) w0 w1:=λk hk=>hs k hk.2.lt λe=>by
  have h2:=Gc hown e;exact bi.ne h2 hk.2 (by decide) rfl
 refine ⟨h1,λk hk=>⟨hk.1,?_⟩⟩;obtain ⟨c,hc⟩:=hk.2;exact ⟨c,(h1 k hk).trans hc⟩
theorem ax.below {w w' w1:World}{v:Value}{zs:List Ent}(h:ax w w' v zs)(hb:Below w'.heap.size w' w1):ax w w1 v zs:=by
 obtain ⟨cs,h1,h2⟩:=h;refine ⟨cs,um h1 (λg hg=>hb.block g (h1.lt g hg).2),(h2.keep ((Same.below hb).sub λk hk=>hk.2.lt)).mono λk hk=>⟨hk.1,hk.2.below hb⟩⟩
theorem ax.sl {w w':World}{v:Value}{zs:List Ent}(h:ax w w' v zs): ∃A c,v=.slice A zs.length c/\In w' A zs.length c zs:=by
 obtain ⟨cs,h1,h2⟩:=h;obtain ⟨A,c,e,hs,_⟩:=dX (T:=λk=>k<w'.heap.size) h1 h2 (λk hk=>hk.2.lt) rfl (λg _ hg=>hg.lt);exact ⟨A,c,e,hs⟩
theorem ax.add {w w0 w1:World}{v v1:Value}{zs:List Ent}{cs:List Value}{x:Ent}{A:Option Addr}{n c:Nat}(hown:w0.ownsRow w.heap.size 50 2 v zs.length cs)(hc:Cells w0 (New w w0 36) cs zs)(hx:Sl w0 (New w w0 36) A n c x.row)(h64:dH x.count)(hs: ∀k,k<w0.heap.size->v.ownBlock≠some k->w1.heap[k]?=w0.heap[k]?)(hown1:w1.ownsRow w.heap.size 50 2 v1 (zs.length+1) (cs++[.slice A n c,.int .i64 x.count])):ax w w1 v1 (zs++[x]):=by
 obtain ⟨h1,h2⟩:=F7 (w:=w) hown hs;have h3:Rep.rd w1 (New w w1 36) [.slice A n c,.int .i64 x.count] x:=⟨A,n,c,rfl,(hx.keep h1).mono h2,h64⟩;exact ⟨_,by rw[List.length_append];exact hown1,Cells.app (Cells.one h3) ((hc.keep h1).mono h2)⟩
theorem nY: ∀{xs:List Val} {w:World} {S:Nat->Prop} {cs:List Value},Cells w S cs xs-> ∀u∈cs,u.oneCell'=true
 | [],_,_,_,h,u,hu=>by rw[show _=[] from h]at hu;cases hu
 |x :: xs,_,_,_,⟨c0,c1,rfl,h0,h1⟩,u,hu=>by
  rcases List.mem_append.1 hu with h|h
  ·have e:c0=x.cells:=h0.1;rw[e]at h;simp[Val.cells]at h;rcases h with rfl|rfl|rfl <;> rfl
  ·exact nY h1 u h
theorem jO: ∀{xs:List Val} {w w':World} {S T:Nat->Prop} {cs:List Value},Cells w S cs xs->Cells w' T cs xs
 | [],_,_,_,_,_,h=>h
 |x :: xs,_,_,_,_,_,⟨c0,c1,e,h0,h1⟩=>⟨c0,c1,e,h0,jO h1⟩
theorem Bg {x:Ent}{l:List Ent}(h:x.count=0):aY (x :: l)=aY l:=by simp[aY,h]
theorem Bh {x:Ent}{l:List Ent}(h:x.count≠0):aY (x :: l)=x :: aY l:=by simp[aY,h]
theorem uw (w:World)(A:Option Addr)(n c:Nat)(xs:List Ent)(hx:In w A n c xs)(hn:n<=1048576)(hrow: ∀x∈xs,x.row.length<=4096):
  Calls Tryz.prog 46 #[.slice A n c] w
   λe w'=>(∃v m zs,e=.returned (.tuple #[v,.int .i64 m])/\ax w w' v zs/\((m=2/\aZ 0 xs=true/\zs=[])\/(m=0/\aZ 0 xs=false/\zs=aY xs)))/\Below w.heap.size w w':=by
 obtain ⟨i0,hi,hz0,hz1,hz2⟩:=info_parts lX;obtain ⟨i1,hj,hy0,hy1,hy2⟩:=info_parts mF;have h63:=hx.le;go_enter Tryz.func46,Tryz.ntmps46;go_wp2;go_loopw [4,5] (λo i wr=> ∃(k:Nat) (zs:List Ent),k<=n/\i=.int .i64 k/\zs.length<=k/\aY xs=zs++aY (xs.drop k)/\aZ 0 xs=aZ zs.length (xs.drop k)/\(∃A c,o=.slice A zs.length c)/\ax w wr o zs/\Below w.heap.size w wr)
  (λ_ i _=>n-(intOf i).toNat)
 case atStart=>exact ⟨0,[],Nat.zero_le _,rfl,by simp,by simp,by simp,⟨none,0,rfl⟩,⟨[],World.ownsRow_nil _ _ _ _,rfl⟩,Below.refl _ _⟩
 case round=>
  obtain ⟨k,zs,hk,rfl,WM,hkeep,FJ,⟨A4,c4,rfl⟩,hf,hb⟩:=hrel;have HK:=hide hkeep;have HR:=hide FJ;have HF:=hide hf;clear hkeep FJ hf;by_cases hlt:k<n
  ·obtain ⟨bl,off,x,rfl,hB,HX,Ax,nx,cx,e0,e1,e2,e3⟩:=hx.ent hlt;replace e0:=aj hb hB e0;replace e1:=aj hb hB e1;have hBr:=Nat.lt_of_lt_of_le hB hb.size;obtain ⟨m1,m2⟩:=e3;have hrx:x.row.length<=4096:=hrow x (List.mem_of_getElem? (bE HX.out).1);have k0:(0:Int)<=(k:Int):=by omega
   have k1:(k:Int)<(n:Int):=by omega
   cases hz:(x.count==0)
   ·have hz':x.count≠0:=by simpa using hz
    by_cases hs:x.count < -65536\/65536<x.count\/zs.length=4096
    ·have HE:Hid (aZ 0 xs=true):=hide (by
      rw[HR.out,HX.out,aZ,if_neg hz'];rcases hs with h|h|h <;> simp[h])
     by_cases h1:x.count < -65536
     ·have hq:decide ((-65536:Int)<=x.count)=false:=by simp;omega
      go_wp2_with (go_at_call 75;refine (iy _ _).mono ?_;rintro e w' ⟨rfl,rfl⟩);all_goals (try (exfalso;go_light;simp_all;done));go_ret2;exact ⟨⟨_,_,[],rfl,⟨[],World.ownsRow_nil _ _ _ _,rfl⟩,.inl ⟨rfl,HE.out,rfl⟩⟩,hb⟩
     ·by_cases h2:65536<x.count
      ·have hq:decide (x.count<=(65536:Int))=false:=by simp;omega
       go_wp2_with (go_at_call 75;refine (iy _ _).mono ?_;rintro e w' ⟨rfl,rfl⟩);all_goals (try (exfalso;go_light;simp_all;done));go_ret2;exact ⟨⟨_,_,[],rfl,⟨[],World.ownsRow_nil _ _ _ _,rfl⟩,.inl ⟨rfl,HE.out,rfl⟩⟩,hb⟩
      ·have h3:zs.length=4096:=by omega
       have q1:(-65536:Int)<=x.count:=by omega
       have q2:x.count<=(65536:Int):=by omega
       have q3:((zs.length:Int)==4096)=true:=by simp;omega
       clear h3;go_wp2_with (go_at_call 75;refine (iy _ _).mono ?_;rintro e w' ⟨rfl,rfl⟩);all_goals (try (exfalso;go_light;simp_all;done));go_ret2;exact ⟨⟨_,_,[],rfl,⟨[],World.ownsRow_nil _ _ _ _,rfl⟩,.inl ⟨rfl,HE.out,rfl⟩⟩,hb⟩
    ·have q1:(-65536:Int)<=x.count:=by omega
     have q2:x.count<=(65536:Int):=by omega
     have q3:((zs.length:Int)==4096)=false:=by simp;omega
     have HE:Hid (aZ 0 xs=aZ (zs.length+1) (xs.drop (k+1))):=hide (by
      rw[HR.out,HX.out,aZ,if_neg hz'];have a1:¬x.count < -65536:=by omega
      have a2:¬65536<x.count:=by omega
      have a3:¬zs.length=4096:=by omega
      simp[a1,a2,a3])
     have HKK:Hid (aY xs=(zs++[x])++aY (xs.drop (k+1))):=hide (by rw[HK.out,HX.out,Bh hz'];simp);obtain ⟨cs,hown,hcells⟩:=HF.out;have HW:=hide hown;have hsz:=hb.size;have HRW:=hide (λg (h:(Value.slice A4 zs.length c4).ownBlock=some g)=>(hown.lt g h).1);have Tw:=hide (HW.out.1);obtain ⟨rs,hrs,hsrc⟩:=Sl.cells e2;have hAx:Ax=none->nx=0:=λh=>by have:=e2.2.2.2.1 h;have:=e2.2.1;omega
     have hnx:nx<=4096:=by rw[<-e2.len];exact hrx
     have Vs:=nY hrs;have QI:Hid (∀W,Below w.heap.size w W->Src W 3 Ax nx rs):=hide (λW hW=>⟨hsrc.1,λh0=>by
      obtain ⟨b',o',e,hc⟩:=hsrc.2 h0;refine ⟨b',o',e,λj u hu=>?_⟩;have hcj:=hc j u hu;exact (hW.cell (p:=⟨b',o'+j,none⟩) (block_lt_of_cell hcj)).trans hcj⟩)
     have UZ:=hide hrs;have Kv:=hide hcells;clear hown hcells hz' hs hsrc hrs;go_wp2_with (go_at_call 75;refine (iy _ _).mono ?_;rintro e w' ⟨rfl,rfl⟩);all_goals (try (exfalso;go_light;simp_all;done));go_region_held3 (λw'=>w'.cell? ⟨bl,off+k*2,none⟩=some (.slice Ax nx cx)/\w'.cell? ⟨bl,off+k*2+1,none⟩=some (.int .i64 x.count)) (first|exact ⟨e0,e1⟩|exact ⟨(hb2.cell (p:=⟨bl,off+k*2,none⟩) hB).trans e0,(hb2.cell (p:=⟨bl,off+k*2+1,none⟩) hB).trans e1⟩|exact ⟨(hb1.cell (p:=⟨bl,off+k*2,none⟩) hB).trans e0,(hb1.cell (p:=⟨bl,off+k*2+1,none⟩) hB).trans e1⟩|go_keep) (first|(refine bP _ rfl (.const (.slice none 0 0)) (.tmp 35) 23 rfl w.heap.size 36 i1 _ 3 32 Tryz.underlying23 hj hy0 hy1 hy2 rfl (by decide) (.slice none 0 0) 0 [] rfl (World.ownsRow_nil _ _ _ _) Ax nx cx rs (by simp[Act.eval,Act.put]) hAx (by exact QI.out _ ((hb.drew))) Vs (by simp only[maxLen];omega) (by omega) (by simp;omega) ?_;intro v0 w0 hown0 hg0 Jv;have hb1:Below w.heap.size wr w0:=((Below.refl w.heap.size wr).drew).grown hg0 (by simp;omega) (by simp[Value.ownBlock]);obtain ⟨A0,c0,rfl,hsl0,_⟩:=dX (S:=λ_=>False) (T:=New w w0 36) hown0 (jO UZ.out) (λ_ h=>h.elim) (by rw[e2.len];omega) (λg hg ht=>⟨hg,ht⟩);rw[Nat.zero_add]at hsl0;have QF:=hide hsl0;have hbw0:Below wr.heap.size wr w0:=((Below.refl wr.heap.size wr).drew).grown hg0 (by simp) (by simp[Value.ownBlock]);have hsz0:w.heap.size<=w0.heap.size:=Nat.le_trans hsz hbw0.size;have Eu:=hide (um HW.out (λg hg=>hbw0.block g (HW.out.lt g hg).2));have Uf:=hide ((Kv.out.keep ((Same.below hbw0).sub λk hk=>hk.2.lt)).mono λk (hk:New w wr 36 k)=>(⟨hk.1,hk.2.below hbw0⟩:New w w0 36 k));clear hsl0 hown0 hg0 Jv)|(refine bP _ rfl (.tmp 30) (.tmp 43) 27 rfl w.heap.size 50 i0 _ 2 32 Tryz.underlying27 hi hz0 hz1 hz2 rfl (by decide) (.slice A4 zs.length c4) zs.length cs (by simp[Act.eval,Act.put]) (by first|exact kr (Eu.out.alloc _)|exact Eu.out.alloc _) (some ⟨w0.heap.size,0,none⟩) 1 1 [.slice A0 nx c0,.int .i64 x.count] (by simp[Act.eval,Act.put]) (by intro h;cases h) (by exact lh (by simp[go_sem]) (by simp[go_sem])) jI (by simp only[maxLen];omega) (by omega) (by simp;omega) ?_;intro v1 w1 hown1 hg1 nE;have hb2:Below w.heap.size wr w1:=(hb1.trans ((Below.refl w.heap.size w0).alloc hsz0 _)).grown hg1 (by simp;omega) HRW.out));have hf1:ax w w1 v1 (zs++[x]):=ax.add Eu.out Uf.out QF.out ⟨m1,m2⟩ (λk hk hne=>(hg1.block k (by simp;omega) (λe=>hne e.symm)).trans (Below.heap_alloc _ _ _ hk)) hown1;obtain ⟨A1,c1,rfl,_⟩:=hf1.sl;have Ql:=hide hf1;have hbw:=hb.trans hb2;clear hf1 hown1 hg1 nE;go_wp2;go_roundw
     case rel=>exact ⟨k+1,zs++[x],by omega,by go_num,by simp;omega,HKK.out,by rw[List.length_append];exact HE.out,⟨_,_,rfl⟩,Ql.out,hbw⟩
     case measure=>simp[intOf];omega
   ·have hz':x.count=0:=by simpa using hz
    have HE:Hid (aZ 0 xs=aZ zs.length (xs.drop (k+1))):=hide (by rw[HR.out,HX.out,aZ,if_pos hz']);have HKK:Hid (aY xs=zs++aY (xs.drop (k+1))):=hide (by rw[HK.out,HX.out,Bg hz']);go_wp2;all_goals (try (exfalso;go_light;simp_all;done));go_roundw
    case rel=>exact ⟨k+1,zs,by omega,by go_num,by omega,HKK.out,HE.out,⟨_,_,rfl⟩,HF.out,hb⟩
    case measure=>simp[intOf];omega
  ·have hd:=hide (aD hx.len (show n<=k by omega));have HE:Hid (aZ 0 xs=false):=hide (by rw[HR.out,hd.out];rfl);have HKK:Hid (zs=aY xs):=hide (by rw[HK.out,hd.out];simp[aY]);go_wp2;go_ret2;exact ⟨⟨_,_,zs,rfl,HF.out,.inr ⟨rfl,HE.out,HKK.out⟩⟩,hb⟩
end Go.Proofs.YtopjjlmfilgngaaGreatDoor
