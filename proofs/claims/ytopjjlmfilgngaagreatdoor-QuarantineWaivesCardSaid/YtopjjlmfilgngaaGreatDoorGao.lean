/-
  slices.Clone of values, partition.copied, byDay: the rows of each day, copied. Package bag: put, done, both. warehouseref22.CopyEntries. Package bag: merge, Add. (Printed by gen_bagm.py.) Plain law of bag.sum: a sorted list, its runs of equal rows summed. No program is in sight. (*warehouseworld.Numbers).Next; Instants, Value, Row. bag.Add, warehouseref6.Add.
-/
import Derived.Test.YtopjjlmfilgngaaGreatDoorGan
import Derived.Test.YtopjjlmfilgngaaGreatDoorGrp
import Derived.Test.YtopjjlmfilgngaaGreatDoorGae
import Derived.Test.YtopjjlmfilgngaaGreatDoorGak
import Derived.Test.YtopjjlmfilgngaaGreatDoorGad
import Derived.Test.YtopjjlmfilgngaaGreatDoorGal
namespace Go.Proofs.YtopjjlmfilgngaaGreatDoor
set_option maxHeartbeats 4000000
set_option maxRecDepth 100000
open Go.RowKit
set_option linter.unusedSimpArgs false
set_option linter.unusedVariables false
theorem Cb (w:World)(A:Option Addr)(n c:Nat)(xs:List Val)(hx:In w A n c xs)(hn:n<=1048576):
  Calls Tryz.prog 37 #[.slice A n c] w λe w'=>(∃A' c',e=.returned (.slice A' n c')/\Sl w' (New w w' 36) A' n c' xs)/\Below w.heap.size w w':=by
 obtain ⟨i0,hi,hz0,hz1,hz2⟩:=info_parts lL;have hlen:=hide hx.len;have kn:=λ(W:World) (a:Option Addr) (l c:Nat)=>Lib.run_eql_slice_nil (P:=Tryz.prog) W 23 36 a l c 0 0 Tryz.underlying23;cases A with
 |none=>
  have h0:c=0:=hx.2.2.2.1 rfl;have h1:n=0:=by have:=hx.2.1;omega
  subst h0 h1;have he:xs=[]:=List.eq_nil_of_length_eq_zero hx.1;subst he;go_enter Tryz.func37,Tryz.ntmps37;go_wp2;go_ret;exact ⟨⟨_,_,rfl,Sl.nil_⟩,Below.refl _ _⟩
 |some ad=>
  obtain ⟨cs,HC,HS⟩:=Sl.cells (hx.below (ae (o:=.cells #[] 36)));have h1:=qb HC;have HC:=hide HC;go_enter Tryz.func37,Tryz.ntmps37;go_wp2_with (at_builtin;refine iK _ rfl (.tmp 5) (.tmp 6) 23 rfl w.heap.size 36 i0 _ 3 32 Tryz.underlying23 hi hz0 hz1 hz2 rfl (by decide) (.slice (some ⟨w.heap.size,0,none⟩) 0 0) 0 [] rfl (World.ownsRow_made w #[] 0 (Nat.le_refl _) (by decide) rfl) (some ad) n c cs rfl (λh=>by cases h) HS h1 (by simp only[maxLen];omega) (by omega) (by simp) ?_;intro v1 w3 hown1 hg1 qP);have hb3:Below w.heap.size w w3:=(ae).grown hg1 (by simp) (λj e=>by simp[Value.ownBlock]at e;omega);have hown2:w3.ownsRow w.heap.size 36 3 v1 n cs:=by simpa using hown1
  obtain ⟨A',c',rfl,hsl,_⟩:=gP (S:=λ_=>False) (T:=New w w3 36) hown2 (ll HC.out) (λ_ h=>h.elim) hlen.out (λg hg ht=>⟨hg,ht⟩);go_ret;exact ⟨⟨A',c',rfl,hsl⟩,hb3⟩
theorem wy:Elem Tryz.prog 27 50 2 32:=ni _ Tryz.underlying27 oM rfl (by decide)
abbrev OE (B:Nat)(w:World)(v:Value)(zs:List Ent):Prop:=OL 50 B (λ_=>False) [36] w v zs
theorem aD.ol {w w':World}{v:Value}{zs:List Ent}(h:aD w w' v zs)(hb:w.heap.size<=w'.heap.size):OE w.heap.size w' v zs:=by
 obtain ⟨cs,h1,h2⟩:=h;exact ⟨⟨cs,h1,h2.mono λk hk=>.inr ⟨hk.1,_,by simp,hk.2⟩⟩,hb⟩
def Q8 (zs:List Ent)(row:List Val)(k:Int):Bool×List Ent:=if k < -65536\/65536<k then (false,[]) else (true,if k=0 then zs else zs++[⟨row,k⟩])
theorem Dn (w:World)(A:Option Addr)(n c:Nat)(xs:List Ent)(hx:In w A n c xs)(hn:n<=1048576)(hrow: ∀x∈xs,x.row.length<=4096):
  Calls Tryz.prog 42 #[.slice A n c] w
   λe w'=>(∃v,e=.returned v/\aD w w' v xs)/\Below w.heap.size w w':=by
 obtain ⟨i0,hi,hz0,hz1,hz2⟩:=info_parts oM;obtain ⟨i1,hj,hy0,hy1,hy2⟩:=info_parts lL;have h63:=hx.le;go_enter Tryz.func42,Tryz.ntmps42;go_wp2;go_loopw [3,4] (λo i wr=> ∃k:Nat,k<=n/\i=.int .i64 k/\aD w wr o (xs.take k)/\Below w.heap.size w wr)
  (λ_ i _=>n-(RowKit.intOf i).toNat)
 case atStart=>exact ⟨0,Nat.zero_le _,rfl,aD.nil _ _,Below.refl _ _⟩
 case round=>
  obtain ⟨k,hk,rfl,hf,hb⟩:=hrel;have HF:=hide hf;clear hf;by_cases hlt:k<n
  ·obtain ⟨bl,off,x,rfl,hB,HX,Ax,nx,cx,e0,e1,e2,e3⟩:=hx.ent hlt;replace e0:=ah hb hB e0;replace e1:=ah hb hB e1;have hBr:=Nat.lt_of_lt_of_le hB hb.size;obtain ⟨m1,m2⟩:=e3;have hrx:x.row.length<=4096:=hrow x (List.mem_of_getElem? (bX HX.out).1);have k0:(0:Int)<=(k:Int):=by omega
   have k1:(k:Int)<(n:Int):=by omega
   obtain ⟨cs,hown,hcells⟩:=HF.out;have Sk:Hid ((xs.take k).length=k):=hide (by rw[List.length_take,hx.len];omega);rw[Sk.out]at hown;have HW:=hide hown;have hsz:=hb.size;have HRW:=hide (λg (h:u3.ownBlock=some g)=>(hown.lt g h).1);obtain ⟨rs,hrs,hsrc⟩:=Sl.cells e2;have hAx:Ax=none->nx=0:=λh=>by have:=e2.2.2.2.1 h;have:=e2.2.1;omega
   have hnx:nx<=4096:=by rw[<-e2.len];exact hrx
   have ZE:=qb hrs;have Sy:Hid (∀W,Below w.heap.size w W->Src W 3 Ax nx rs):=hide (λW hW=>⟨hsrc.1,λh0=>by
    obtain ⟨b',o',e,hc⟩:=hsrc.2 h0;refine ⟨b',o',e,λj u hu=>?_⟩;have hcj:=hc j u hu;exact (hW.cell (p:=⟨b',o'+j,none⟩) (block_lt_of_cell hcj)).trans hcj⟩)
   have YX:=hide hrs;have Gx:=hide hcells;clear hown hcells hsrc hrs;go_wp2;go_region_held3 (λw'=>w'.cell? ⟨bl,off+k*2,none⟩=some (.slice Ax nx cx)/\w'.cell? ⟨bl,off+k*2+1,none⟩=some (.int .i64 x.count)) (first|exact ⟨e0,e1⟩|exact ⟨(hb2.cell (p:=⟨bl,off+k*2,none⟩) hB).trans e0,(hb2.cell (p:=⟨bl,off+k*2+1,none⟩) hB).trans e1⟩|exact ⟨(hb1.cell (p:=⟨bl,off+k*2,none⟩) hB).trans e0,(hb1.cell (p:=⟨bl,off+k*2+1,none⟩) hB).trans e1⟩|go_keep) (first|(refine dB _ rfl (.const (.slice none 0 0)) (.tmp 16) 23 rfl w.heap.size 36 i1 _ 3 32 Tryz.underlying23 hj hy0 hy1 hy2 rfl (by decide) (.slice none 0 0) 0 [] rfl (World.ownsRow_nil _ _ _ _) Ax nx cx rs (by simp[Act.eval,Act.put]) hAx (by exact Sy.out _ ((hb.drew))) ZE (by simp only[maxLen];omega) (by omega) (by simp;omega) ?_;intro v0 w0 hown0 hg0 Kk;have hb1:Below w.heap.size wr w0:=((Below.refl w.heap.size wr).drew).grown hg0 (by simp;omega) (by simp[Value.ownBlock]);obtain ⟨A0,c0,rfl,hsl0,_⟩:=gP (S:=λ_=>False) (T:=New w w0 36) hown0 (ll YX.out) (λ_ h=>h.elim) (by rw[e2.len];omega) (λg hg ht=>⟨hg,ht⟩);rw[Nat.zero_add]at hsl0;have Sw:=hide hsl0;have hbw0:Below wr.heap.size wr w0:=((Below.refl wr.heap.size wr).drew).grown hg0 (by simp) (by simp[Value.ownBlock]);have hsz0:w.heap.size<=w0.heap.size:=Nat.le_trans hsz hbw0.size;have yz:=hide (ve HW.out (λg hg=>hbw0.block g (HW.out.lt g hg).2));have Yo:=hide ((Gx.out.keep ((Same.below hbw0).sub λk hk=>hk.2.lt)).mono λk (hk:New w wr 36 k)=>(⟨hk.1,hk.2.below hbw0⟩:New w w0 36 k));clear hsl0 hown0 hg0 Kk)|(refine dB _ rfl (.tmp 11) (.tmp 24) 27 rfl w.heap.size 50 i0 _ 2 32 Tryz.underlying27 hi hz0 hz1 hz2 rfl (by decide) u3 k cs (by simp[Act.eval,Act.put]) (by first|exact mO (yz.out.alloc _)|exact yz.out.alloc _) (some ⟨w0.heap.size,0,none⟩) 1 1 [.slice A0 nx c0,.int .i64 x.count] (by simp[Act.eval,Act.put]) (by intro h;cases h) (by exact nL (by simp[go_sem]) (by simp[go_sem])) l7 (by simp only[maxLen];omega) (by omega) (by simp;omega) ?_;intro v1 w1 hown1 hg1 qP;have hb2:Below w.heap.size wr w1:=(hb1.trans ((Below.refl w.heap.size w0).alloc hsz0 _)).grown hg1 (by simp;omega) HRW.out));have hf1:aD w w1 v1 (xs.take k++[x]):=aD.add (by rw[Sk.out];exact yz.out) Yo.out Sw.out ⟨m1,m2⟩ (λk hk hne=>(hg1.block k (by simp;omega) (λe=>hne e.symm)).trans (Below.heap_alloc _ _ _ hk)) (by rw[Sk.out];exact hown1);have YA:=hide hf1;have hbw:=hb.trans hb2;clear hf1 hown1 hg1 qP;go_wp2;go_roundw
   case rel=>exact ⟨k+1,by omega,by go_num,by rw[bg HX.out];exact YA.out,hbw⟩
   case measure=>simp[RowKit.intOf];omega
  ·have HFF:Hid (aD w wr u3 xs):=hide (by
    have h:=HF.out;rw[List.take_of_length_le (by rw[hx.len];omega)]at h;exact h)
   go_wp2;go_ret;exact ⟨⟨_,rfl,HFF.out⟩,hb⟩
def sg (s:Int)(l:List Ent):List Ent:=l.map λx=>⟨x.row,s*x.count⟩
def tN (M rest:List Ent)(ok:Bool)(zs:List Ent):Prop:=
 ∃ws,M=ws++rest/\(ok=true->zs=dJ ws/\ ∀x∈ws, -65536<=x.count/\x.count<=65536)/\(ok=false-> ∃x∈ws,x.count < -65536\/65536<x.count)
theorem tN.start (M:List Ent):tN M M true []:=⟨[],rfl,λ_=>⟨rfl,by simp⟩,λh=>by cases h⟩
theorem tN.step {M rest rest' zs:List Ent}{x:Ent}(h:tN M rest true zs)(e:rest=x :: rest'):tN M rest' (Q8 zs x.row x.count).1 (Q8 zs x.row x.count).2:=by
 obtain ⟨ws,h1,h2,_⟩:=h;obtain ⟨h3,h4⟩:=h2 rfl;subst h3 e;refine ⟨ws++[x],by rw[h1];simp,λq=>?_,λq=>?_⟩
 ·rw[Q8]at q⊢
  split at q
  ·cases q
  ·rename_i hr;rw[if_neg hr];refine ⟨?_,λy hy=>?_⟩
   ·show (if x.count=0 then dJ ws else dJ ws++[⟨x.row,x.count⟩])=dJ (ws++[x]);rw[show dJ (ws++[x])=dJ ws++dJ [x] from List.filter_append ..]
    split
    ·rename_i q;simp[dJ,q]
    ·rename_i q;simp[dJ,q]
   ·rcases List.mem_append.1 hy with hy|hy
    ·exact h4 y hy
    ·simp at hy;subst hy;omega
 ·rw[Q8]at q
  split at q
  ·rename_i hr;exact ⟨x,by simp,hr⟩
  ·cases q
theorem um: ∀(l:List Ent) (m:Nat),(∃x∈l,x.count < -65536\/65536<x.count)->dH m l=true
 | [],m,h=>by simp at h
 |x :: l,m,h=>by
  rw[dH];by_cases q:x.count=0
  ·rw[if_pos q];refine um l m ?_;obtain ⟨y,hy,h⟩:=h;rcases List.mem_cons.1 hy with rfl|hy
   ·omega
   ·exact ⟨y,hy,h⟩
  ·rw[if_neg q];obtain ⟨y,hy,h⟩:=h;rcases List.mem_cons.1 hy with rfl|hy
   ·rcases h with h|h <;> simp[h]
   ·rw[um l (m+1) ⟨y,hy,h⟩];simp
def RI (M:List Ent):Int×List Ent:=if dH 0 M=true then (2,[]) else (0,dJ M)
theorem tN.bad {M rest zs:List Ent}(h:tN M rest false zs):RI M=(2,[]):=by
 obtain ⟨ws,h1,_,h3⟩:=h;obtain ⟨x,hx,h⟩:=h3 rfl;rw[RI,if_pos (um _ _ ⟨x,by rw[h1];simp[hx],h⟩)]
def Iy:List Ent->Int
 | []=>0
 |x :: l=>x.count+Iy l
theorem Lf (l:List Ent)(x:Ent):Iy (l++[x])=Iy l+x.count:=by
 induction l with
 |nil=>simp[Iy]
 |cons y l ih=>rw[List.cons_append,Iy,Iy,ih];omega
def MB (ys:List Ent)(r:List Val)(k q:Nat)(n:Int):Prop:= ∃UK,ys.drop k=UK++ys.drop q/\UK.length=q-k/\(∀x∈UK,x.row=r)/\n=Iy UK/\ -65536*((q:Int)-k)<=n/\n<=65536*((q:Int)-k)
theorem MB.start (ys:List Ent)(r:List Val)(k:Nat):MB ys r k k 0:=⟨[],by simp,by simp,by simp,rfl,by omega,by omega⟩
theorem MB.step {ys:List Ent}{r:List Val}{k q:Nat}{n:Int}(h:MB ys r k q n)(hk:k<=q){y:Ent}(hy:ys.drop q=y :: ys.drop (q+1))(hr:y.row=r)(hb: -65536<=y.count/\y.count<=65536):MB ys r k (q+1) (n+y.count):=by
 obtain ⟨UK,h1,h2,h3,h4,h5,h6⟩:=h;refine ⟨UK++[y],by rw[h1,hy];simp,by simp;omega,λx hx=>?_,by rw[Lf,h4],by omega,by omega⟩;rcases List.mem_append.1 hx with hx|hx
 ·exact h3 x hx
 ·simp at hx;subst hx;exact hr
structure Num (w:World) (gb:Nat) (A:Option Addr) (n c:Nat) (l:List Int) (i:Nat):Prop where
 c0:w.cell? ⟨gb,0,none⟩=some (.slice A n c)
 c1:w.cell? ⟨gb,1,none⟩=some (.int .i64 (i:Int))
 blk:dP w gb 64 2
 lst:Sl w (λk=>k<gb) A n c l
 le:i<=n
 nn:n<=1048576
theorem Num.lt {w:World}{gb:Nat}{A:Option Addr}{n c:Nat}{l:List Int}{i:Nat}(h:Num w gb A n c l i):gb<w.heap.size:=h.blk.lt
theorem Num.inn {w:World}{gb:Nat}{A:Option Addr}{n c:Nat}{l:List Int}{i:Nat}(h:Num w gb A n c l i):In w A n c l:=Sl.mono (λk hk=>Nat.lt_trans hk h.lt) h.lst
theorem Num.below {w w':World}{gb:Nat}{A:Option Addr}{n c:Nat}{l:List Int}{i:Nat}(h:Num w gb A n c l i)(hb:Below w.heap.size w w'):Num w' gb A n c l i:=
 ⟨ah hb h.lt h.c0,ah hb h.lt h.c1,h.blk.below hb,h.lst.keep ((Same.below hb).sub λk hk=>Nat.lt_trans hk h.lt),h.le,h.nn⟩
theorem Num.grown {w w':World}{gb:Nat}{A:Option Addr}{n c:Nat}{l:List Int}{i:Nat}{row:Option Nat}(h:Num w gb A n c l i)(hg:w.grownBy w' row)(hr: ∀k,row=some k->gb<k):Num w' gb A n c l i:=by
 have hs: ∀k,k<=gb->w'.heap[k]?=w.heap[k]?:=λk hk=>hg.block k (Nat.lt_of_le_of_lt hk h.lt) λe=>by have:=hr k e.symm;omega
 obtain ⟨cur,hc,hm⟩:=h.blk;exact ⟨(World.cell?_of_block (a:=⟨gb,0,none⟩) (hs gb (Nat.le_refl _))).trans h.c0,(World.cell?_of_block (a:=⟨gb,1,none⟩) (hs gb (Nat.le_refl _))).trans h.c1,⟨cur,(hs gb (Nat.le_refl _)).trans hc,hm⟩,h.lst.keep λk hk=>hs k (Nat.le_of_lt hk),h.le,h.nn⟩
theorem Num.made (w:World)(A:Option Addr)(n c:Nat)(l:List Int)(h:In w A n c l)(hn:n<=1048576):Num (w.alloc (.cells #[.slice A n c,.int .i64 0] 64)) w.heap.size A n c l 0:=
 ⟨vY (heap_alloc_new w _) 0 _ rfl,vY (heap_alloc_new w _) 1 _ rfl,dP.made w _ _ 2 rfl,h.keep (Same.below ae),Nat.zero_le _,hn⟩
theorem bM {w:World}{b o:Nat}{v:Value}:w.grownBy (w.setCell ⟨b,o,none⟩ v) (some b):=
 ⟨rfl,rfl,rfl,by simp,λk _ hk=>Below.heap_setCell _ _ _ k (λe=>hk (by rw[show k=b from e]))⟩
theorem dL (w:World)(gb:Nat)(A:Option Addr)(n c:Nat)(l:List Int)(i:Nat)(h:Num w gb A n c l i)(m:Int)(hm:m<=1099511627776):
  Calls Tryz.prog 32 #[.pointer (some ⟨gb,0,none⟩),.int .i64 m] w
   λe w'=>(∃v i',e=.returned (.int .i64 v)/\0<=v/\(1<=m->v<m)/\Num w' gb A n c l i')/\w.grownBy w' (some gb):=by
 have c0:=h.c0;have c1:=h.c1;have f1:=h.blk.frozen 1;have hnn:=h.nn;have H:=hide h;clear h;by_cases hi:n<=i
 ·have q:decide (n<=i)=true:=by simp;omega
  go_enter Tryz.func32,Tryz.ntmps32;go_wp2;go_quiet (fail);go_wp2;all_goals (try (exfalso;go_light;simp_all;done));go_ret;exact ⟨⟨0,i,rfl,by omega,by omega,H.out.below (below_drewN (Below.refl _ _) _)⟩,Below.grows (below_drewN (Below.refl _ _) _) _⟩
 have q:decide (n<=i)=false:=by simp;omega
 by_cases hm1:m<1
 ·have q1:decide (m<1)=true:=by simp;omega
  go_enter Tryz.func32,Tryz.ntmps32;go_wp2;go_quiet (fail);go_wp2;all_goals (try (exfalso;go_light;simp_all;done));go_ret;exact ⟨⟨0,i,rfl,by omega,by omega,H.out.below (below_drewN (Below.refl _ _) _)⟩,Below.grows (below_drewN (Below.refl _ _) _) _⟩
 have q1:decide (m<1)=false:=by simp;omega
 obtain ⟨b,off,x,rfl,hB,HX,e0,e1⟩:=H.out.inn.int (k:=i) (by omega);have k1:IntKind.i64.wrap ((i:Int)+1)=(i:Int)+1:=IntWalk.i64_in _ (by omega);have k2:IntKind.i64.wrap ((i:Int)+1-1)=(i:Int):=by rw[show (i:Int)+1-1=i by omega];exact IntWalk.i64_in _ (by omega)
 have k6:IntKind.i64.wrap (i:Int)=(i:Int):=IntWalk.i64_in _ (by omega);have k3:(i:Int)<(n:Int):=by omega
 have k4:(0:Int)<=(i:Int):=by omega
 have k5:i<n:=by omega
 have hne:b≠gb:=λe=>by
  have h1:=H.out.lst.2.2.2.2 (by omega);obtain ⟨b',off',e',hb',_⟩:=h1;injection e' with e';injection e' with e1 e2;subst e1;omega
 have m0:0<=x % m:=Int.emod_nonneg _ (by omega);have m1:x % m<m:=Int.emod_lt_of_pos _ (by omega);go_enter Tryz.func32,Tryz.ntmps32;go_wp2;go_quiet (fail);go_wp2;obtain ⟨w2,hw2⟩: ∃w2,w2=(w.drewN nq).setCell ⟨gb,1,none⟩ (.int .i64 ((i:Int)+1)):=⟨_,rfl⟩;have d0:w2.cell? ⟨gb,0,none⟩=some (.slice (some ⟨b,off,none⟩) n c):=by rw[hw2];exact ag c0 (.inr (by omega))
 have d1:w2.cell? ⟨gb,1,none⟩=some (.int .i64 ((i:Int)+1)):=by rw[hw2];exact cO (w:=w.drewN nq) c1
 have d2:w2.cell? ⟨b,off+i,none⟩=some (.int .i64 x):=by rw[hw2];exact ag e0 (.inl hne)
 have hg2:w.grownBy w2 (some gb):=by rw[hw2];exact (Below.grows (below_drewN (Below.refl _ w) nq) _).trans bM
 have hs2: ∀k,k<gb->w2.heap[k]?=w.heap[k]?:=λk hk=>hg2.block k (Nat.lt_trans hk H.out.lt) (λe=>by injection e with e;omega);have HN:Hid (Num w2 gb (some ⟨b,off,none⟩) n c l (i+1)):=hide ⟨d0,by simpa using d1,by rw[hw2];exact (H.out.blk.below (below_drewN (Below.refl _ w) nq)).set _ _ _,H.out.lst.keep λk hk=>hs2 k hk,by omega,H.out.nn⟩;have HG:=hide hg2;rw[<-hw2];clear hw2 hg2 hs2 c0 c1 e0 f1;go_region_held3 (λV=>V.cell? ⟨gb,0,none⟩=some (.slice (some ⟨b,off,none⟩) n c)/\V.cell? ⟨gb,1,none⟩=some (.int .i64 ((i:Int)+1))/\V.cell? ⟨b,off+i,none⟩=some (.int .i64 x)) (first|exact ⟨d0,d1,d2⟩) (first|(go_at_call 12;refine (ul x m (by omega) hm _).mono ?_;rintro e w' ⟨rfl,rfl⟩));go_wp2;go_ret;exact ⟨⟨x % m,i+1,rfl,m0,λ_=>m1,HN.out.below (Below.refl _ _).drew⟩,HG.out.trans (Below.grows (Below.refl _ _).drew _)⟩
def Off (w:World){α:Type}[Rep α](gb:Nat)(A:Option Addr)(n c:Nat)(xs:List α):Prop:=Sl w (λk=>k<w.heap.size/\k≠gb) A n c xs
section
variable {α:Type}[Rep α]{w w':World}{gb:Nat}{A:Option Addr}{n c:Nat}{xs:List α}
theorem Off.inn (h:Off w gb A n c xs):In w A n c xs:=Sl.mono (λk hk=>hk.1) h
theorem Off.grown (h:Off w gb A n c xs)(hg:w.grownBy w' (some gb)):Off w' gb A n c xs:=
 (h.keep (λk hk=>hg.block k hk.1 λe=>hk.2 (by injection e))).mono λk hk=>⟨Nat.lt_of_lt_of_le hk.1 hg.size,hk.2⟩
theorem Off.below (h:Off w gb A n c xs)(hb:Below w.heap.size w w'):Off w' gb A n c xs:=h.grown (Below.grows hb _)
end
theorem gJ {B gb:Nat}{a w w':World}(h:Below B a w)(hg:w.grownBy w' (some gb))(hB:B<=w.heap.size)(hgb:B<=gb):Below B a w':=h.grown hg hB λk e=>by injection e with e;omega
theorem yT: ∀ks:List Int,ks.flatMap Flat.cs=ks.map (Value.int .i64)
 | []=>rfl
 |x :: l=>by rw[List.flatMap_cons,List.map_cons,yT l];rfl
theorem uY (w:World):Calls Tryz.prog 99 #[] w λe w'=>(∃l,e=.returned (.slice (some ⟨w.heap.size,0,none⟩) 16 16)/\In w' (some ⟨w.heap.size,0,none⟩) 16 16 l/\ ∀x∈l,(0:Int)<=x/\x<=575999999)/\Below w.heap.size w w':=by
 go_enter Tryz.func99,Tryz.ntmps99;go_wp2;go_loopw [2] (λi wr=> ∃(k:Nat) (cur:Array Value),k<=16/\i=.int .i64 k/\wr.heap[w.heap.size]?=some (.cells cur 3 (0,0))/\cur.size=16/\(∀j,j<16-> ∃x:Int,cur[j]?=some (.int .i64 x)/\0<=x/\x<=153000/\(k<=j->x<=9000))/\Below w.heap.size w wr) (λi _=>16-(intOf i).toNat)
 case atStart=>
  refine ⟨0,_,by omega,rfl,heap_alloc_new w _,rfl,λj hj=>?_,ae⟩;have:j=0\/j=1\/j=2\/j=3\/j=4\/j=5\/j=6\/j=7\/j=8\/j=9\/j=10\/j=11\/j=12\/j=13\/j=14\/j=15:=by omega
  rcases this with rfl|rfl|rfl|rfl|rfl|rfl|rfl|rfl|rfl|rfl|rfl|rfl|rfl|rfl|rfl|rfl <;> exact ⟨_,rfl,by decide,by decide,λ_=>by decide⟩
 case round=>
  obtain ⟨k,cur,hk,rfl,NF,hsz,hall,hb⟩:=hrel;have Pw:=hide hall;have HB:=hide hb;have HC:=hide NF;have Sz:=hide hsz;clear hall hb;by_cases hlt:k<16
  ·obtain ⟨x,hx,x0,_,x1⟩:=Pw.out k hlt;have x1:=x1 (Nat.le_refl _);have k0:(0:Int)<=(k:Int):=by omega
   have k1:(k:Int)<16:=by omega
   have c0:wr.cell? ⟨w.heap.size,k,none⟩=some (.int .i64 x):=by rw[cell_of_row wr w.heap.size k cur 3 (0,0) NF];exact hx
   have f0:wr.frozen? ⟨w.heap.size,k,none⟩=false:=frozen_of_row wr w.heap.size k cur 3 NF;have q:IntKind.i64.wrap (x+144000)=x+144000:=IntWalk.i64_in _ (by omega);clear NF hsz hx;go_wp2;go_roundw
   case rel=>
    refine ⟨k+1,cur.setIfInBounds k (.int .i64 (x+144000)),by omega,by go_num,by simp[World.setCell,Array.getElem?_modify,HC.out],by simp[Sz.out],λj hj=>?_,HB.out.setCell (Nat.le_refl _) _⟩;by_cases hjk:k=j
    ·subst hjk;exact ⟨x+144000,by rw[Array.getElem?_setIfInBounds_self];simp[Sz.out,hj],by omega,by omega,λh=>by omega⟩
    ·obtain ⟨y,hy,y0,y1,y2⟩:=Pw.out j hj;exact ⟨y,by rw[Array.getElem?_setIfInBounds_ne hjk];exact hy,y0,y1,λh=>y2 (by omega)⟩
   case measure=>simp[intOf];omega
  ·have HL:Hid (cur.toList=(cur.toList.map intOf).map (Value.int .i64)):=hide (by
    apply List.ext_getElem?;intro j;rw[List.getElem?_map,List.getElem?_map,Array.getElem?_toList];by_cases hj:j<16
    ·obtain ⟨y,hy,_⟩:=Pw.out j hj;rw[hy];rfl
    ·rw[Array.getElem?_eq_none (by omega)];rfl)
   have HM:Hid (∀x∈cur.toList.map intOf,(0:Int)<=x/\x<=575999999):=hide (by
    intro x hx;obtain ⟨v,hv,rfl⟩:=List.mem_map.1 hx;obtain ⟨j,hj,rfl⟩:=List.getElem_of_mem hv;rw[Array.length_toList,Sz.out]at hj;obtain ⟨y,hy,y0,y1,_⟩:=Pw.out j hj;rw[Array.getElem?_eq_getElem (by omega)]at hy;injection hy with hy;rw[Array.getElem_toList,hy];show 0<=y/\y<=_;omega)
   have hk16:k=16:=by omega
   subst hk16;clear NF hsz;go_wp2;go_ret;have hl:=HL.out;have hm:=HM.out;have hlen:(cur.toList.map intOf).length=16:=by simp[Sz.out]
   generalize cur.toList.map intOf=l at*;refine ⟨⟨l,rfl,iZ HC.out ?_ hlen (by decide),hm⟩,HB.out⟩;have h:=pX wr (λk=>k<wr.heap.size) (xs:=l) (λx hx=>by have:=hm x hx;exact ⟨by omega,by omega⟩);rw[yT]at h;rw[hl];exact h
theorem OwnEnts.out {w w':World}{S:Nat->Prop}{v:Value}{zs:List Ent}(h:OwnEnts w w' S v zs)(hS: ∀k,S k->k<w'.heap.size): ∃A c,v=.slice A zs.length c/\In w' A zs.length c zs:=h.sl hS
end Go.Proofs.YtopjjlmfilgngaaGreatDoor
