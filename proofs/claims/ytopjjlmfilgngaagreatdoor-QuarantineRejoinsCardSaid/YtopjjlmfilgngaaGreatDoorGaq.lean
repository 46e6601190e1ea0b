/-
  slices.Clone of values, partition.copied, byDay: the rows of each day, copied. Package bag: put, done, both. Package bag: merge, Add. (Printed by gen_bagm.py.) Plain law of bag.sum: a sorted list, its runs of equal rows summed. No program is in sight. bag.Add, warehouseref6.Add. (*warehouseworld.Numbers).Next; Instants, Value, Row.
-/
import Derived.Test.YtopjjlmfilgngaaGreatDoorGal
import Derived.Test.YtopjjlmfilgngaaGreatDoorGrp
import Derived.Test.YtopjjlmfilgngaaGreatDoorGae
import Derived.Test.YtopjjlmfilgngaaGreatDoorGaj
import Derived.Test.YtopjjlmfilgngaaGreatDoorGad
import Derived.Test.YtopjjlmfilgngaaGreatDoorGan
namespace Go.Proofs.YtopjjlmfilgngaaGreatDoor
set_option maxHeartbeats 2000000
set_option maxRecDepth 100000
open Go.RowKit
set_option linter.unusedSimpArgs false
set_option linter.unusedVariables false
theorem vK (w:World)(A:Option Addr)(n c:Nat)(xs:List Val)(hx:In w A n c xs)(hn:n<=1048576):
  Calls Tryz.prog 37 #[.slice A n c] w λe w'=>(∃A' c',e=.returned (.slice A' n c')/\Sl w' (New w w' 36) A' n c' xs)/\Below w.heap.size w w':=by
 obtain ⟨i0,hi,hz0,hz1,hz2⟩:=info_parts mF;have hlen:=hide hx.len;have kn:=λ(W:World) (a:Option Addr) (l c:Nat)=>Lib.run_eql_slice_nil (P:=Tryz.prog) W 23 36 a l c 0 0 Tryz.underlying23;cases A with
 |none=>
  have h0:c=0:=hx.2.2.2.1 rfl;have h1:n=0:=by have:=hx.2.1;omega
  subst h0 h1;have he:xs=[]:=List.eq_nil_of_length_eq_zero hx.1;subst he;go_enter Tryz.func37,Tryz.ntmps37;go_wp2;go_ret;exact ⟨⟨_,_,rfl,Sl.nil_⟩,Below.refl _ _⟩
 |some ad=>
  obtain ⟨cs,HC,HS⟩:=Sl.cells (hx.below (ae (o:=.cells #[] 36)));have h1:=nY HC;have HC:=hide HC;go_enter Tryz.func37,Tryz.ntmps37;go_wp2_with (at_builtin;refine ed _ rfl (.tmp 5) (.tmp 6) 23 rfl w.heap.size 36 i0 _ 3 32 Tryz.underlying23 hi hz0 hz1 hz2 rfl (by decide) (.slice (some ⟨w.heap.size,0,none⟩) 0 0) 0 [] rfl (World.ownsRow_made w #[] 0 (Nat.le_refl _) (by decide) rfl) (some ad) n c cs rfl (λh=>by cases h) HS h1 (by simp only[maxLen];omega) (by omega) (by simp) ?_;intro v1 w3 hown1 hg1 nE);have hb3:Below w.heap.size w w3:=(ae).grown hg1 (by simp) (λj e=>by simp[Value.ownBlock]at e;omega);have hown2:w3.ownsRow w.heap.size 36 3 v1 n cs:=by simpa using hown1
  obtain ⟨A',c',rfl,hsl,_⟩:=dX (S:=λ_=>False) (T:=New w w3 36) hown2 (jO HC.out) (λ_ h=>h.elim) hlen.out (λg hg ht=>⟨hg,ht⟩);go_ret;exact ⟨⟨A',c',rfl,hsl⟩,hb3⟩
theorem vM:Elem Tryz.prog 27 50 2 32:=mM _ Tryz.underlying27 lX rfl (by decide)
theorem new_bs {w w':World}{B:Nat}{O:Nat->Prop}{T:List TypeId}{t:TypeId}(hB:B<=w.heap.size)(ht:t∈T){k:Nat}(h:New w w' t k):BS B O T w' k:=.inr ⟨Nat.le_trans hB h.1,t,ht,h.2⟩
abbrev OE (B:Nat)(w:World)(v:Value)(zs:List Ent):Prop:=OL 50 B (λ_=>False) [36] w v zs
def JG (zs:List Ent)(row:List Val)(k:Int):Bool×List Ent:=if k < -65536\/65536<k then (false,[]) else (true,if k=0 then zs else zs++[⟨row,k⟩])
theorem put_any (W:World)(B:Nat)(v:Value)(zs:List Ent)(hO:OE B W v zs)(A:Option Addr)(n c:Nat)(row:List Val)(hr:In W A n c row)(hn:n<=4096)(k:Int)(hk:dH k)(hl:zs.length<1048576):
  Calls Tryz.prog 104 #[v,.slice A n c,.int .i64 k] W λe w'=>(∃v',e=.returned (.tuple #[v',.bool (JG zs row k).1])/\OE B w' v' (JG zs row k).2)/\W.grownBy w' v.ownBlock/\Below B W w':=by
 have HO:=hide hO;by_cases h1:k < -65536
 ·have e1:JG zs row k=(false,[]):=if_pos (.inl h1);rw[e1];have d1:decide (k < -65536)=true:=by simpa using h1
  go_enter Tryz.func104,Tryz.ntmps104;go_wp2;all_goals (try (exfalso;go_light;simp_all;done));go_ret2;exact ⟨⟨_,rfl,OL.nil hO.base⟩,World.grownBy.refl _ _,Below.refl _ _⟩
 by_cases h2:65536<k
 ·have e1:JG zs row k=(false,[]):=if_pos (.inr h2);rw[e1];have d1:decide (k < -65536)=false:=by simpa using h1
  have d2:decide (65536<k)=true:=by simpa using h2
  go_enter Tryz.func104,Tryz.ntmps104;go_wp2;all_goals (try (exfalso;go_light;simp_all;done));go_ret2;exact ⟨⟨_,rfl,OL.nil hO.base⟩,World.grownBy.refl _ _,Below.refl _ _⟩
 have d1:decide (k < -65536)=false:=by simpa using h1
 have d2:decide (65536<k)=false:=by simpa using h2
 by_cases h3:k=0
 ·have e1:JG zs row k=(true,zs):=by rw[JG,if_neg (by omega),if_pos h3]
  rw[e1];clear e1 h1 h2;subst h3;go_enter Tryz.func104,Tryz.ntmps104;go_wp2;all_goals (try (exfalso;go_light;simp_all;done));go_ret2;exact ⟨⟨_,rfl,HO.out⟩,World.grownBy.refl _ _,Below.refl _ _⟩
 have e1:JG zs row k=(true,zs++[⟨row,k⟩]):=by rw[JG,if_neg (by omega),if_neg h3]
 rw[e1];have d3:(k != 0)=true:=by simpa using h3
 clear e1 h1 h2;go_enter Tryz.func104,Tryz.ntmps104;go_wp2_with fail;refine (vK _ A n c row hr (by omega)).mono ?_;rintro e w1 ⟨⟨A1,c1,rfl,hs⟩,hb1⟩;have HS:=hide (hs.mono λk hk=>new_bs (B:=B) (O:=λ_=>False) (T:=[36]) hO.base (by simp) hk);have Ht:=hide (hO.below hb1);have HB1:=hide hb1;clear hs hb1;go_wp2_with (at_builtin;refine bf _ rfl _ _ _ rfl vM (by decide) _ _ rfl Ht.out rfl rfl ⟨row,k⟩ ⟨_,_,_,rfl,HS.out,hk⟩ (by simp only[maxLen];omega) (by omega) ?_;intro v1 w9 vV fo xe pE);have Aa:=hide vV;have O9:=hide ((Below.grows HB1.out v.ownBlock).trans xe);have zZ:=hide ((HB1.out.mono hO.base).trans fo);clear vV fo xe pE;go_wp2;all_goals (try (exfalso;go_light;simp_all;done));go_ret2;exact ⟨⟨_,rfl,Aa.out⟩,O9.out,zZ.out⟩
theorem done_any (W:World)(v:Value)(n c:Nat)(A:Option Addr)(hn:n<=9223372036854775807):
  Calls Tryz.prog 105 #[.slice A n c] W λe w'=>e=.returned (if 4096<n then .tuple #[.slice none 0 0,.int .i64 2] else .tuple #[.slice A n c,.int .i64 0])/\Below W.heap.size W w':=by
 by_cases h:4096<n
 ·rw[if_pos h];have h1:(4096:Int)<(n:Int):=by omega
  go_enter Tryz.func105,Tryz.ntmps105;go_wp2;go_ret2;exact ⟨rfl,Below.refl _ _⟩
 ·rw[if_neg h];have h1:¬(4096:Int)<(n:Int):=by omega
  go_enter Tryz.func105,Tryz.ntmps105;go_wp2;go_ret2;exact ⟨rfl,Below.refl _ _⟩
def sg (s:Int)(l:List Ent):List Ent:=l.map λx=>⟨x.row,s*x.count⟩
def nW (M rest:List Ent)(ok:Bool)(zs:List Ent):Prop:=
 ∃ws,M=ws++rest/\(ok=true->zs=aY ws/\ ∀x∈ws, -65536<=x.count/\x.count<=65536)/\(ok=false-> ∃x∈ws,x.count < -65536\/65536<x.count)
theorem nW.start (M:List Ent):nW M M true []:=⟨[],rfl,λ_=>⟨rfl,by simp⟩,λh=>by cases h⟩
theorem nW.step {M rest rest' zs:List Ent}{x:Ent}(h:nW M rest true zs)(e:rest=x :: rest'):nW M rest' (JG zs x.row x.count).1 (JG zs x.row x.count).2:=by
 obtain ⟨ws,h1,h2,_⟩:=h;obtain ⟨h3,h4⟩:=h2 rfl;subst h3 e;refine ⟨ws++[x],by rw[h1];simp,λq=>?_,λq=>?_⟩
 ·rw[JG]at q⊢
  split at q
  ·cases q
  ·rename_i hr;rw[if_neg hr];refine ⟨?_,λy hy=>?_⟩
   ·show (if x.count=0 then aY ws else aY ws++[⟨x.row,x.count⟩])=aY (ws++[x]);rw[show aY (ws++[x])=aY ws++aY [x] from List.filter_append ..]
    split
    ·rename_i q;simp[aY,q]
    ·rename_i q;simp[aY,q]
   ·rcases List.mem_append.1 hy with hy|hy
    ·exact h4 y hy
    ·simp at hy;subst hy;omega
 ·rw[JG]at q
  split at q
  ·rename_i hr;exact ⟨x,by simp,hr⟩
  ·cases q
theorem oF: ∀(l:List Ent) (m:Nat),(∃x∈l,x.count < -65536\/65536<x.count)->aZ m l=true
 | [],m,h=>by simp at h
 |x :: l,m,h=>by
  rw[aZ];by_cases q:x.count=0
  ·rw[if_pos q];refine oF l m ?_;obtain ⟨y,hy,h⟩:=h;rcases List.mem_cons.1 hy with rfl|hy
   ·omega
   ·exact ⟨y,hy,h⟩
  ·rw[if_neg q];obtain ⟨y,hy,h⟩:=h;rcases List.mem_cons.1 hy with rfl|hy
   ·rcases h with h|h <;> simp[h]
   ·rw[oF l (m+1) ⟨y,hy,h⟩];simp
def wu (M:List Ent):Int×List Ent:=if aZ 0 M=true then (2,[]) else (0,aY M)
theorem nW.bad {M rest zs:List Ent}(h:nW M rest false zs):wu M=(2,[]):=by
 obtain ⟨ws,h1,_,h3⟩:=h;obtain ⟨x,hx,h⟩:=h3 rfl;rw[wu,if_pos (oF _ _ ⟨x,by rw[h1];simp[hx],h⟩)]
theorem nW.fin {M zs:List Ent}(h:nW M [] true zs):wu M=if 4096<zs.length then (2,[]) else (0,zs):=by
 obtain ⟨ws,h1,h2,_⟩:=h;obtain ⟨h3,h4⟩:=h2 rfl;rw[List.append_nil]at h1;subst h1 h3;have hk:=kY (aY M) 0 (dW _) (by omega);rw[gq]at hk;rw[wu];by_cases q:4096<(aY M).length
 ·rw[if_pos q,if_pos];cases g:aZ 0 M
  ·have:=(hk.1 g).2;omega
  ·rfl
 ·rw[if_neg q,if_neg];rw[hk.2 ⟨λx hx=>h4 x (Dq x hx),by omega⟩];simp
theorem putS_len (zs:List Ent)(row:List Val)(k:Int):(JG zs row k).2.length<=zs.length+1:=by
 rw[JG]
 split
 ·simp
 ·simp only
  split
  ·omega
  ·simp
def gsum:List Ent->List Ent
 | []=>[]
 |x :: l=>match gsum l with
  | []=>[x]
  |y :: m=>if ah x.row y.row=0 then ⟨x.row,x.count+y.count⟩ :: m else x :: y :: m
theorem gsum_cnt: ∀(l:List Ent) (r:List Val),cnt (gsum l) r=cnt l r
 | [],r=>rfl
 |x :: l,r=>by
  have ih:=gsum_cnt l r;rw[gsum]
  split
  ·rename_i h;rw[h]at ih;rw[cnt.eq_2 r x [],cnt.eq_2 r x l,ih]
  ·rename_i y m h;rw[h]at ih
   split
   ·rename_i q;have q:=aS.1 q;rw[cnt]at ih;rw[cnt,cnt,<-ih,q]
    split
    ·simp only;omega
    ·omega
   ·rw[cnt,cnt.eq_2 r x l,ih]
theorem gsum_head: ∀(x:Ent) (l:List Ent),∃n m,gsum (x :: l)=⟨x.row,n⟩ :: m:=by
 intro x l;rw[gsum]
 split
 ·exact ⟨_,_,rfl⟩
 ·split
  ·exact ⟨_,_,rfl⟩
  ·exact ⟨_,_,rfl⟩
theorem gsum_asc: ∀(l:List Ent),l.Pairwise (λa b=>¬ah b.row a.row<0)->eu (gsum l)
 | [],_=>List.Pairwise.nil
 | [x],_=>by rw[gsum,gsum];exact List.pairwise_singleton _ _
 |x :: x2 :: l,h=>by
  have ih:=gsum_asc (x2 :: l) (List.pairwise_cons.1 h).2;obtain ⟨n,m,e⟩:=gsum_head x2 l;have hx:=(List.pairwise_cons.1 h).1 x2 (by simp);rw[gsum,e];rw[e]at ih;simp only;have ih2:=ih.head;have ih3:=ih.tail;by_cases q:ah x.row x2.row=0
  ·rw[if_pos q];have q:=aS.1 q;refine List.pairwise_cons.2 ⟨λy hy=>?_,ih3⟩;have:=ih2 y hy;simpa[q] using this
  ·rw[if_neg q];have hlt:ah x.row x2.row<0:=by
    by_cases q3:0<ah x.row x2.row
    ·exact absurd (wV.2 q3) hx
    ·omega
   refine List.pairwise_cons.2 ⟨λy hy=>?_,ih⟩;rcases List.mem_cons.1 hy with rfl|hy
   ·exact hlt
   ·exact jb hlt (ih2 y hy)
def BD:List Ent->Int
 | []=>0
 |x :: l=>x.count+BD l
theorem DW (l:List Ent)(x:Ent):BD (l++[x])=BD l+x.count:=by
 induction l with
 |nil=>simp[BD]
 |cons y l ih=>rw[List.cons_append,BD,BD,ih];omega
theorem gsum_seg (r:List Val)(rest:List Ent)(hr: ∀y∈rest.head?,y.row≠r): ∀(ML:List Ent),ML≠[]->(∀x∈ML,x.row=r)->gsum (ML++rest)=⟨r,BD ML⟩ :: gsum rest
 | [],h,_=>absurd rfl h
 | [x],_,h=>by
  have hx:=h x (by simp);rw[List.singleton_append,gsum];cases rest with
  |nil=>
   simp only[gsum,BD];obtain ⟨a,b⟩:=x;simp only at hx;subst hx;simp
  |cons y rest=>
   obtain ⟨n,m,e⟩:=gsum_head y rest;rw[e];simp only;have hy:=hr y (by simp);rw[if_neg λq=>hy ((aS.1 q).symm.trans hx)];obtain ⟨a,b⟩:=x;simp only at hx;subst hx;simp[BD]
 |x :: x2 :: ML,_,h=>by
  have hx:=h x (by simp);have ih:=gsum_seg r rest hr (x2 :: ML) (by simp) λy hy=>h y (by simp[hy]);rw[List.cons_append,gsum,ih];simp only;rw[if_pos (aS.2 hx),hx];rfl
theorem gsum_bag {xs ys:List Ent}(hp:ys.Perm xs)(hs:ys.Pairwise λa b=>¬ah b.row a.row<0):gV xs=wu (gsum ys):=by
 rw[IE (gsum_asc ys hs) λr=>by rw[gsum_cnt,cnt_perm hp]];rfl
def EB (ys:List Ent)(r:List Val)(k q:Nat)(n:Int):Prop:= ∃ML,ys.drop k=ML++ys.drop q/\ML.length=q-k/\(∀x∈ML,x.row=r)/\n=BD ML/\ -65536*((q:Int)-k)<=n/\n<=65536*((q:Int)-k)
theorem EB.start (ys:List Ent)(r:List Val)(k:Nat):EB ys r k k 0:=⟨[],by simp,by simp,by simp,rfl,by omega,by omega⟩
theorem EB.step {ys:List Ent}{r:List Val}{k q:Nat}{n:Int}(h:EB ys r k q n)(hk:k<=q){y:Ent}(hy:ys.drop q=y :: ys.drop (q+1))(hr:y.row=r)(hb: -65536<=y.count/\y.count<=65536):EB ys r k (q+1) (n+y.count):=by
 obtain ⟨ML,h1,h2,h3,h4,h5,h6⟩:=h;refine ⟨ML++[y],by rw[h1,hy];simp,by simp;omega,λx hx=>?_,by rw[DW,h4],by omega,by omega⟩;rcases List.mem_append.1 hx with hx|hx
 ·exact h3 x hx
 ·simp at hx;subst hx;exact hr
theorem EB.fin {ys:List Ent}{k q:Nat}{n:Int}{x:Ent}(h:EB ys x.row k q n)(hx:ys.drop k=x :: ys.drop (k+1))(hq: ∀y∈(ys.drop q).head?,y.row≠x.row):gsum (ys.drop k)=⟨x.row,n⟩ :: gsum (ys.drop q)/\k<q:=by
 obtain ⟨ML,h1,h2,h3,h4,_⟩:=h;have hne:ML≠[]:=λe=>by
  rw[e,List.nil_append]at h1;exact hq x (by rw[<-h1,hx];simp) rfl
 refine ⟨by rw[h1,h4];exact gsum_seg x.row _ hq ML hne h3,?_⟩;cases ML with
 |nil=>exact absurd rfl hne
 |cons _ _=>simp at h2;omega
theorem OwnEnts.out {w w':World}{S:Nat->Prop}{v:Value}{zs:List Ent}(h:OwnEnts w w' S v zs)(hS: ∀k,S k->k<w'.heap.size): ∃A c,v=.slice A zs.length c/\In w' A zs.length c zs:=h.sl hS
structure Num (w:World) (gb:Nat) (A:Option Addr) (n c:Nat) (l:List Int) (i:Nat):Prop where
 c0:w.cell? ⟨gb,0,none⟩=some (.slice A n c)
 c1:w.cell? ⟨gb,1,none⟩=some (.int .i64 (i:Int))
 blk:bF w gb 64 2
 lst:Sl w (λk=>k<gb) A n c l
 le:i<=n
 nn:n<=1048576
theorem Num.lt {w:World}{gb:Nat}{A:Option Addr}{n c:Nat}{l:List Int}{i:Nat}(h:Num w gb A n c l i):gb<w.heap.size:=h.blk.lt
theorem Num.inn {w:World}{gb:Nat}{A:Option Addr}{n c:Nat}{l:List Int}{i:Nat}(h:Num w gb A n c l i):In w A n c l:=Sl.mono (λk hk=>Nat.lt_trans hk h.lt) h.lst
theorem Num.below {w w':World}{gb:Nat}{A:Option Addr}{n c:Nat}{l:List Int}{i:Nat}(h:Num w gb A n c l i)(hb:Below w.heap.size w w'):Num w' gb A n c l i:=
 ⟨aj hb h.lt h.c0,aj hb h.lt h.c1,h.blk.below hb,h.lst.keep ((Same.below hb).sub λk hk=>Nat.lt_trans hk h.lt),h.le,h.nn⟩
theorem Num.grown {w w':World}{gb:Nat}{A:Option Addr}{n c:Nat}{l:List Int}{i:Nat}{row:Option Nat}(h:Num w gb A n c l i)(hg:w.grownBy w' row)(hr: ∀k,row=some k->gb<k):Num w' gb A n c l i:=by
 have hs: ∀k,k<=gb->w'.heap[k]?=w.heap[k]?:=λk hk=>hg.block k (Nat.lt_of_le_of_lt hk h.lt) λe=>by have:=hr k e.symm;omega
 obtain ⟨cur,hc,hm⟩:=h.blk;exact ⟨(World.cell?_of_block (a:=⟨gb,0,none⟩) (hs gb (Nat.le_refl _))).trans h.c0,(World.cell?_of_block (a:=⟨gb,1,none⟩) (hs gb (Nat.le_refl _))).trans h.c1,⟨cur,(hs gb (Nat.le_refl _)).trans hc,hm⟩,h.lst.keep λk hk=>hs k (Nat.le_of_lt hk),h.le,h.nn⟩
theorem Num.made (w:World)(A:Option Addr)(n c:Nat)(l:List Int)(h:In w A n c l)(hn:n<=1048576):Num (w.alloc (.cells #[.slice A n c,.int .i64 0] 64)) w.heap.size A n c l 0:=
 ⟨qm (heap_alloc_new w _) 0 _ rfl,qm (heap_alloc_new w _) 1 _ rfl,bF.made w _ _ 2 rfl,h.keep (Same.below ae),Nat.zero_le _,hn⟩
theorem mQ {w:World}{b o:Nat}{v:Value}:w.grownBy (w.setCell ⟨b,o,none⟩ v) (some b):=
 ⟨rfl,rfl,rfl,by simp,λk _ hk=>Below.heap_setCell _ _ _ k (λe=>hk (by rw[show k=b from e]))⟩
theorem eH (w:World)(gb:Nat)(A:Option Addr)(n c:Nat)(l:List Int)(i:Nat)(h:Num w gb A n c l i)(m:Int)(hm:m<=1099511627776):
  Calls Tryz.prog 32 #[.pointer (some ⟨gb,0,none⟩),.int .i64 m] w
   λe w'=>(∃v i',e=.returned (.int .i64 v)/\0<=v/\(1<=m->v<m)/\Num w' gb A n c l i')/\w.grownBy w' (some gb):=by
 have c0:=h.c0;have c1:=h.c1;have f1:=h.blk.frozen 1;have hnn:=h.nn;have H:=hide h;clear h;by_cases hi:n<=i
 ·have q:decide (n<=i)=true:=by simp;omega
  go_enter Tryz.func32,Tryz.ntmps32;go_wp2;go_quiet (fail);go_wp2;all_goals (try (exfalso;go_light;simp_all;done));go_ret;exact ⟨⟨0,i,rfl,by omega,by omega,H.out.below (below_drewN (Below.refl _ _) _)⟩,Below.grows (below_drewN (Below.refl _ _) _) _⟩
 have q:decide (n<=i)=false:=by simp;omega
 by_cases hm1:m<1
 ·have q1:decide (m<1)=true:=by simp;omega
  go_enter Tryz.func32,Tryz.ntmps32;go_wp2;go_quiet (fail);go_wp2;all_goals (try (exfalso;go_light;simp_all;done));go_ret;exact ⟨⟨0,i,rfl,by omega,by omega,H.out.below (below_drewN (Below.refl _ _) _)⟩,Below.grows (below_drewN (Below.refl _ _) _) _⟩
 have q1:decide (m<1)=false:=by simp;omega
 obtain ⟨b,off,x,rfl,hB,HX,e0,e1⟩:=H.out.inn.int (k:=i) (by omega);have k1:IntKind.i64.wrap ((i:Int)+1)=(i:Int)+1:=IntWalk.i64_in _ (by omega);have k2:IntKind.i64.wrap ((i:Int)+1-1)=(i:Int):=by rw[show (i:Int)+1-1=i by omega];exact IntWalk.i64_in _ (by omega)
 have k6:IntKind.i64.wrap (i:Int)=(i:Int):=IntWalk.i64_in _ (by omega);have k3:(i:Int)<(n:Int):=by omega
 have k4:(0:Int)<=(i:Int):=by omega
 have k5:i<n:=by omega
 have hne:b≠gb:=λe=>by
  have h1:=H.out.lst.2.2.2.2 (by omega);obtain ⟨b',off',e',hb',_⟩:=h1;injection e' with e';injection e' with e1 e2;subst e1;omega
 have m0:0<=x % m:=Int.emod_nonneg _ (by omega);have m1:x % m<m:=Int.emod_lt_of_pos _ (by omega);go_enter Tryz.func32,Tryz.ntmps32;go_wp2;go_quiet (fail);go_wp2;obtain ⟨w2,hw2⟩: ∃w2,w2=(w.drewN nq).setCell ⟨gb,1,none⟩ (.int .i64 ((i:Int)+1)):=⟨_,rfl⟩;have d0:w2.cell? ⟨gb,0,none⟩=some (.slice (some ⟨b,off,none⟩) n c):=by rw[hw2];exact af c0 (.inr (by omega))
 have d1:w2.cell? ⟨gb,1,none⟩=some (.int .i64 ((i:Int)+1)):=by rw[hw2];exact bK (w:=w.drewN nq) c1
 have d2:w2.cell? ⟨b,off+i,none⟩=some (.int .i64 x):=by rw[hw2];exact af e0 (.inl hne)
 have hg2:w.grownBy w2 (some gb):=by rw[hw2];exact (Below.grows (below_drewN (Below.refl _ w) nq) _).trans mQ
 have hs2: ∀k,k<gb->w2.heap[k]?=w.heap[k]?:=λk hk=>hg2.block k (Nat.lt_trans hk H.out.lt) (λe=>by injection e with e;omega);have HN:Hid (Num w2 gb (some ⟨b,off,none⟩) n c l (i+1)):=hide ⟨d0,by simpa using d1,by rw[hw2];exact (H.out.blk.below (below_drewN (Below.refl _ w) nq)).set _ _ _,H.out.lst.keep λk hk=>hs2 k hk,by omega,H.out.nn⟩;have HG:=hide hg2;rw[<-hw2];clear hw2 hg2 hs2 c0 c1 e0 f1;go_region_held3 (λV=>V.cell? ⟨gb,0,none⟩=some (.slice (some ⟨b,off,none⟩) n c)/\V.cell? ⟨gb,1,none⟩=some (.int .i64 ((i:Int)+1))/\V.cell? ⟨b,off+i,none⟩=some (.int .i64 x)) (first|exact ⟨d0,d1,d2⟩) (first|(go_at_call 12;refine (Bq x m (by omega) hm _).mono ?_;rintro e w' ⟨rfl,rfl⟩));go_wp2;go_ret;exact ⟨⟨x % m,i+1,rfl,m0,λ_=>m1,HN.out.below (Below.refl _ _).drew⟩,HG.out.trans (Below.grows (Below.refl _ _).drew _)⟩
def Off (w:World){α:Type}[Rep α](gb:Nat)(A:Option Addr)(n c:Nat)(xs:List α):Prop:=Sl w (λk=>k<w.heap.size/\k≠gb) A n c xs
section
variable {α:Type}[Rep α]{w w':World}{gb:Nat}{A:Option Addr}{n c:Nat}{xs:List α}
theorem Off.inn (h:Off w gb A n c xs):In w A n c xs:=Sl.mono (λk hk=>hk.1) h
theorem Off.grown (h:Off w gb A n c xs)(hg:w.grownBy w' (some gb)):Off w' gb A n c xs:=
 (h.keep (λk hk=>hg.block k hk.1 λe=>hk.2 (by injection e))).mono λk hk=>⟨Nat.lt_of_lt_of_le hk.1 hg.size,hk.2⟩
theorem Off.below (h:Off w gb A n c xs)(hb:Below w.heap.size w w'):Off w' gb A n c xs:=h.grown (Below.grows hb _)
end
theorem gH {B gb:Nat}{a w w':World}(h:Below B a w)(hg:w.grownBy w' (some gb))(hB:B<=w.heap.size)(hgb:B<=gb):Below B a w':=h.grown hg hB λk e=>by injection e with e;omega
theorem sU: ∀ks:List Int,ks.flatMap Flat.cs=ks.map (Value.int .i64)
 | []=>rfl
 |x :: l=>by rw[List.flatMap_cons,List.map_cons,sU l];rfl
theorem pJ (w:World):Calls Tryz.prog 99 #[] w λe w'=>(∃l,e=.returned (.slice (some ⟨w.heap.size,0,none⟩) 16 16)/\In w' (some ⟨w.heap.size,0,none⟩) 16 16 l/\ ∀x∈l,(0:Int)<=x/\x<=575999999)/\Below w.heap.size w w':=by
 go_enter Tryz.func99,Tryz.ntmps99;go_wp2;go_loopw [2] (λi wr=> ∃(k:Nat) (cur:Array Value),k<=16/\i=.int .i64 k/\wr.heap[w.heap.size]?=some (.cells cur 3 (0,0))/\cur.size=16/\(∀j,j<16-> ∃x:Int,cur[j]?=some (.int .i64 x)/\0<=x/\x<=153000/\(k<=j->x<=9000))/\Below w.heap.size w wr) (λi _=>16-(intOf i).toNat)
 case atStart=>
  refine ⟨0,_,by omega,rfl,heap_alloc_new w _,rfl,λj hj=>?_,ae⟩;have:j=0\/j=1\/j=2\/j=3\/j=4\/j=5\/j=6\/j=7\/j=8\/j=9\/j=10\/j=11\/j=12\/j=13\/j=14\/j=15:=by omega
  rcases this with rfl|rfl|rfl|rfl|rfl|rfl|rfl|rfl|rfl|rfl|rfl|rfl|rfl|rfl|rfl|rfl <;> exact ⟨_,rfl,by decide,by decide,λ_=>by decide⟩
 case round=>
  obtain ⟨k,cur,hk,rfl,FI,hsz,hall,hb⟩:=hrel;have G9:=hide hall;have HB:=hide hb;have HC:=hide FI;have KS:=hide hsz;clear hall hb;by_cases hlt:k<16
  ·obtain ⟨x,hx,x0,_,x1⟩:=G9.out k hlt;have x1:=x1 (Nat.le_refl _);have k0:(0:Int)<=(k:Int):=by omega
   have k1:(k:Int)<16:=by omega
   have c0:wr.cell? ⟨w.heap.size,k,none⟩=some (.int .i64 x):=by rw[cell_of_row wr w.heap.size k cur 3 (0,0) FI];exact hx
   have f0:wr.frozen? ⟨w.heap.size,k,none⟩=false:=frozen_of_row wr w.heap.size k cur 3 FI;have q:IntKind.i64.wrap (x+144000)=x+144000:=IntWalk.i64_in _ (by omega);clear FI hsz hx;go_wp2;go_roundw
   case rel=>
    refine ⟨k+1,cur.setIfInBounds k (.int .i64 (x+144000)),by omega,by go_num,by simp[World.setCell,Array.getElem?_modify,HC.out],by simp[KS.out],λj hj=>?_,HB.out.setCell (Nat.le_refl _) _⟩;by_cases hjk:k=j
    ·subst hjk;exact ⟨x+144000,by rw[Array.getElem?_setIfInBounds_self];simp[KS.out,hj],by omega,by omega,λh=>by omega⟩
    ·obtain ⟨y,hy,y0,y1,y2⟩:=G9.out j hj;exact ⟨y,by rw[Array.getElem?_setIfInBounds_ne hjk];exact hy,y0,y1,λh=>y2 (by omega)⟩
   case measure=>simp[intOf];omega
  ·have HL:Hid (cur.toList=(cur.toList.map intOf).map (Value.int .i64)):=hide (by
    apply List.ext_getElem?;intro j;rw[List.getElem?_map,List.getElem?_map,Array.getElem?_toList];by_cases hj:j<16
    ·obtain ⟨y,hy,_⟩:=G9.out j hj;rw[hy];rfl
    ·rw[Array.getElem?_eq_none (by omega)];rfl)
   have HM:Hid (∀x∈cur.toList.map intOf,(0:Int)<=x/\x<=575999999):=hide (by
    intro x hx;obtain ⟨v,hv,rfl⟩:=List.mem_map.1 hx;obtain ⟨j,hj,rfl⟩:=List.getElem_of_mem hv;rw[Array.length_toList,KS.out]at hj;obtain ⟨y,hy,y0,y1,_⟩:=G9.out j hj;rw[Array.getElem?_eq_getElem (by omega)]at hy;injection hy with hy;rw[Array.getElem_toList,hy];show 0<=y/\y<=_;omega)
   have Rw:k=16:=by omega
   subst Rw;clear FI hsz;go_wp2;go_ret;have hl:=HL.out;have hm:=HM.out;have hlen:(cur.toList.map intOf).length=16:=by simp[KS.out]
   generalize cur.toList.map intOf=l at*;refine ⟨⟨l,rfl,fC HC.out ?_ hlen (by decide),hm⟩,HB.out⟩;have h:=kN wr (λk=>k<wr.heap.size) (xs:=l) (λx hx=>by have:=hm x hx;exact ⟨by omega,by omega⟩);rw[sU]at h;rw[hl];exact h
end Go.Proofs.YtopjjlmfilgngaaGreatDoor
