/-
  slices.Clone of values, partition.copied, byDay: the rows of each day, copied. Package bag: put, done, both. Package bag: merge, Add. (Printed by gen_bagm.py.) Plain law of bag.sum: a sorted list, its runs of equal rows summed. No program is in sight. (*warehouseworld.Numbers).Next; Instants, Value, Row. warehouseworld.Value: a value that fits a column. warehouseworld.Row, Columns, Table: tables that fit. warehouseworld.Columns, Table; warehouselaw22.table: columns, a zone and a table that fits. bag.Add, warehouseref6.Add.
-/
import Derived.Test.YtopjjlmfilgngaaGreatDoorGal
import Derived.Test.YtopjjlmfilgngaaGreatDoorGrp
import Derived.Test.YtopjjlmfilgngaaGreatDoorGae
import Derived.Test.YtopjjlmfilgngaaGreatDoorGaj
import Derived.Test.YtopjjlmfilgngaaGreatDoorGad
import Derived.Test.YtopjjlmfilgngaaGreatDoorGaf
namespace Go.Proofs.YtopjjlmfilgngaaGreatDoor
set_option maxHeartbeats 1000000
set_option maxRecDepth 100000
open Go.RowKit
set_option linter.unusedSimpArgs false
set_option linter.unusedVariables false
theorem sN (w:World)(A:Option Addr)(n c:Nat)(xs:List Val)(hx:In w A n c xs)(hn:n<=1048576):
  Calls Tryz.prog 37 #[.slice A n c] w λe w'=>(∃A' c',e=.returned (.slice A' n c')/\Sl w' (New w w' 36) A' n c' xs)/\Below w.heap.size w w':=by
 obtain ⟨i0,hi,hz0,hz1,hz2⟩:=info_parts nK;have hlen:=hide hx.len;have kn:=λ(W:World) (a:Option Addr) (l c:Nat)=>Lib.run_eql_slice_nil (P:=Tryz.prog) W 23 36 a l c 0 0 Tryz.underlying23;cases A with
 |none=>
  have h0:c=0:=hx.2.2.2.1 rfl;have h1:n=0:=by have:=hx.2.1;omega
  subst h0 h1;have he:xs=[]:=List.eq_nil_of_length_eq_zero hx.1;subst he;go_enter Tryz.func37,Tryz.ntmps37;go_wp2;go_ret;exact ⟨⟨_,_,rfl,Sl.nil_⟩,Below.refl _ _⟩
 |some ad=>
  obtain ⟨cs,HC,HS⟩:=Sl.cells (hx.below (ae (o:=.cells #[] 36)));have h1:=qc HC;have HC:=hide HC;go_enter Tryz.func37,Tryz.ntmps37;go_wp2_with (at_builtin;refine ja _ rfl (.tmp 5) (.tmp 6) 23 rfl w.heap.size 36 i0 _ 3 32 Tryz.underlying23 hi hz0 hz1 hz2 rfl (by decide) (.slice (some ⟨w.heap.size,0,none⟩) 0 0) 0 [] rfl (World.ownsRow_made w #[] 0 (Nat.le_refl _) (by decide) rfl) (some ad) n c cs rfl (λh=>by cases h) HS h1 (by simp only[maxLen];omega) (by omega) (by simp) ?_;intro v1 w3 hown1 hg1 O4);have hb3:Below w.heap.size w w3:=(ae).grown hg1 (by simp) (λj e=>by simp[Value.ownBlock]at e;omega);have hown2:w3.ownsRow w.heap.size 36 3 v1 n cs:=by simpa using hown1
  obtain ⟨A',c',rfl,hsl,_⟩:=fe (S:=λ_=>False) (T:=New w w3 36) hown2 (lN HC.out) (λ_ h=>h.elim) hlen.out (λg hg ht=>⟨hg,ht⟩);go_ret;exact ⟨⟨A',c',rfl,hsl⟩,hb3⟩
theorem sO:Elem Tryz.prog 27 50 2 32:=jR _ Tryz.underlying27 Bz rfl (by decide)
abbrev OE (B:Nat)(w:World)(v:Value)(zs:List Ent):Prop:=OL 50 B (λ_=>False) [36] w v zs
def EL (zs:List Ent)(row:List Val)(k:Int):Bool×List Ent:=if k < -65536\/65536<k then (false,[]) else (true,if k=0 then zs else zs++[⟨row,k⟩])
def sg (s:Int)(l:List Ent):List Ent:=l.map λx=>⟨x.row,s*x.count⟩
def l7 (M rest:List Ent)(ok:Bool)(zs:List Ent):Prop:=
 ∃ws,M=ws++rest/\(ok=true->zs=dh ws/\ ∀x∈ws, -65536<=x.count/\x.count<=65536)/\(ok=false-> ∃x∈ws,x.count < -65536\/65536<x.count)
theorem l7.start (M:List Ent):l7 M M true []:=⟨[],rfl,λ_=>⟨rfl,by simp⟩,λh=>by cases h⟩
theorem l7.step {M rest rest' zs:List Ent}{x:Ent}(h:l7 M rest true zs)(e:rest=x :: rest'):l7 M rest' (EL zs x.row x.count).1 (EL zs x.row x.count).2:=by
 obtain ⟨ws,h1,h2,_⟩:=h;obtain ⟨h3,h4⟩:=h2 rfl;subst h3 e;refine ⟨ws++[x],by rw[h1];simp,λq=>?_,λq=>?_⟩
 ·rw[EL]at q⊢
  split at q
  ·cases q
  ·rename_i hr;rw[if_neg hr];refine ⟨?_,λy hy=>?_⟩
   ·show (if x.count=0 then dh ws else dh ws++[⟨x.row,x.count⟩])=dh (ws++[x]);rw[show dh (ws++[x])=dh ws++dh [x] from List.filter_append ..]
    split
    ·rename_i q;simp[dh,q]
    ·rename_i q;simp[dh,q]
   ·rcases List.mem_append.1 hy with hy|hy
    ·exact h4 y hy
    ·simp at hy;subst hy;omega
 ·rw[EL]at q
  split at q
  ·rename_i hr;exact ⟨x,by simp,hr⟩
  ·cases q
theorem mr: ∀(l:List Ent) (m:Nat),(∃x∈l,x.count < -65536\/65536<x.count)->dJ m l=true
 | [],m,h=>by simp at h
 |x :: l,m,h=>by
  rw[dJ];by_cases q:x.count=0
  ·rw[if_pos q];refine mr l m ?_;obtain ⟨y,hy,h⟩:=h;rcases List.mem_cons.1 hy with rfl|hy
   ·omega
   ·exact ⟨y,hy,h⟩
  ·rw[if_neg q];obtain ⟨y,hy,h⟩:=h;rcases List.mem_cons.1 hy with rfl|hy
   ·rcases h with h|h <;> simp[h]
   ·rw[mr l (m+1) ⟨y,hy,h⟩];simp
def Fj (M:List Ent):Int×List Ent:=if dJ 0 M=true then (2,[]) else (0,dh M)
theorem l7.bad {M rest zs:List Ent}(h:l7 M rest false zs):Fj M=(2,[]):=by
 obtain ⟨ws,h1,_,h3⟩:=h;obtain ⟨x,hx,h⟩:=h3 rfl;rw[Fj,if_pos (mr _ _ ⟨x,by rw[h1];simp[hx],h⟩)]
def yc:List Ent->Int
 | []=>0
 |x :: l=>x.count+yc l
theorem zY (l:List Ent)(x:Ent):yc (l++[x])=yc l+x.count:=by
 induction l with
 |nil=>simp[yc]
 |cons y l ih=>rw[List.cons_append,yc,yc,ih];omega
def AV (ys:List Ent)(r:List Val)(k q:Nat)(n:Int):Prop:= ∃GI,ys.drop k=GI++ys.drop q/\GI.length=q-k/\(∀x∈GI,x.row=r)/\n=yc GI/\ -65536*((q:Int)-k)<=n/\n<=65536*((q:Int)-k)
theorem AV.start (ys:List Ent)(r:List Val)(k:Nat):AV ys r k k 0:=⟨[],by simp,by simp,by simp,rfl,by omega,by omega⟩
theorem AV.step {ys:List Ent}{r:List Val}{k q:Nat}{n:Int}(h:AV ys r k q n)(hk:k<=q){y:Ent}(hy:ys.drop q=y :: ys.drop (q+1))(hr:y.row=r)(hb: -65536<=y.count/\y.count<=65536):AV ys r k (q+1) (n+y.count):=by
 obtain ⟨GI,h1,h2,h3,h4,h5,h6⟩:=h;refine ⟨GI++[y],by rw[h1,hy];simp,by simp;omega,λx hx=>?_,by rw[zY,h4],by omega,by omega⟩;rcases List.mem_append.1 hx with hx|hx
 ·exact h3 x hx
 ·simp at hx;subst hx;exact hr
structure Num (w:World) (gb:Nat) (A:Option Addr) (n c:Nat) (l:List Int) (i:Nat):Prop where
 c0:w.cell? ⟨gb,0,none⟩=some (.slice A n c)
 c1:w.cell? ⟨gb,1,none⟩=some (.int .i64 (i:Int))
 blk:bg w gb 64 2
 lst:Sl w (λk=>k<gb) A n c l
 le:i<=n
 nn:n<=1048576
theorem Num.lt {w:World}{gb:Nat}{A:Option Addr}{n c:Nat}{l:List Int}{i:Nat}(h:Num w gb A n c l i):gb<w.heap.size:=h.blk.lt
theorem Num.inn {w:World}{gb:Nat}{A:Option Addr}{n c:Nat}{l:List Int}{i:Nat}(h:Num w gb A n c l i):In w A n c l:=Sl.mono (λk hk=>Nat.lt_trans hk h.lt) h.lst
theorem Num.below {w w':World}{gb:Nat}{A:Option Addr}{n c:Nat}{l:List Int}{i:Nat}(h:Num w gb A n c l i)(hb:Below w.heap.size w w'):Num w' gb A n c l i:=
 ⟨ah hb h.lt h.c0,ah hb h.lt h.c1,h.blk.below hb,h.lst.keep ((Same.below hb).sub λk hk=>Nat.lt_trans hk h.lt),h.le,h.nn⟩
theorem Num.grown {w w':World}{gb:Nat}{A:Option Addr}{n c:Nat}{l:List Int}{i:Nat}{row:Option Nat}(h:Num w gb A n c l i)(hg:w.grownBy w' row)(hr: ∀k,row=some k->gb<k):Num w' gb A n c l i:=by
 have hs: ∀k,k<=gb->w'.heap[k]?=w.heap[k]?:=λk hk=>hg.block k (Nat.lt_of_le_of_lt hk h.lt) λe=>by have:=hr k e.symm;omega
 obtain ⟨cur,hc,hm⟩:=h.blk;exact ⟨(World.cell?_of_block (a:=⟨gb,0,none⟩) (hs gb (Nat.le_refl _))).trans h.c0,(World.cell?_of_block (a:=⟨gb,1,none⟩) (hs gb (Nat.le_refl _))).trans h.c1,⟨cur,(hs gb (Nat.le_refl _)).trans hc,hm⟩,h.lst.keep λk hk=>hs k (Nat.le_of_lt hk),h.le,h.nn⟩
theorem Num.made (w:World)(A:Option Addr)(n c:Nat)(l:List Int)(h:In w A n c l)(hn:n<=1048576):Num (w.alloc (.cells #[.slice A n c,.int .i64 0] 64)) w.heap.size A n c l 0:=
 ⟨nS (heap_alloc_new w _) 0 _ rfl,nS (heap_alloc_new w _) 1 _ rfl,bg.made w _ _ 2 rfl,h.keep (Same.below ae),Nat.zero_le _,hn⟩
def Off (w:World){α:Type}[Rep α](gb:Nat)(A:Option Addr)(n c:Nat)(xs:List α):Prop:=Sl w (λk=>k<w.heap.size/\k≠gb) A n c xs
section
variable {α:Type}[Rep α]{w w':World}{gb:Nat}{A:Option Addr}{n c:Nat}{xs:List α}
theorem Off.inn (h:Off w gb A n c xs):In w A n c xs:=Sl.mono (λk hk=>hk.1) h
theorem Off.grown (h:Off w gb A n c xs)(hg:w.grownBy w' (some gb)):Off w' gb A n c xs:=
 (h.keep (λk hk=>hg.block k hk.1 λe=>hk.2 (by injection e))).mono λk hk=>⟨Nat.lt_of_lt_of_le hk.1 hg.size,hk.2⟩
theorem Off.below (h:Off w gb A n c xs)(hb:Below w.heap.size w w'):Off w' gb A n c xs:=h.grown (Below.grows hb _)
end
theorem pW {B gb:Nat}{a w w':World}(h:Below B a w)(hg:w.grownBy w' (some gb))(hB:B<=w.heap.size)(hgb:B<=gb):Below B a w':=h.grown hg hB λk e=>by injection e with e;omega
theorem uq {w:World}{row:Option Nat}(o o':Obj):w.grownBy ((w.alloc o).alloc o') row:=Below.grows below_alloc2 _
structure VS (w W:World) (gb:Nat) (A:Option Addr) (n c:Nat) (l:List Int) (i:Nat) (nm:ByteArray) (kd:Int) (nl:Bool):Prop where
 k:W.cell? ⟨w.heap.size,1,none⟩=some (.int .i64 kd)
 u:W.cell? ⟨w.heap.size,2,none⟩=some (.bool nl)
 blk:bg W (w.heap.size+1) 36 3
 num:Num W gb A n c l i
 grown:w.grownBy W (some gb)
 low:gb<w.heap.size
section
variable {w W W':World}{gb:Nat}{A:Option Addr}{n c:Nat}{l:List Int}{i j:Nat}{nm:ByteArray}{kd:Int}{nl:Bool}
theorem VS.made (h:Num w gb A n c l i)(nm:ByteArray)(kd:Int)(nl:Bool):VS w ((w.alloc (.cells #[.string nm,.int .i64 kd,.bool nl] 82)).alloc (.cells #[.int .i64 0,.int .i64 0,.string ⟨#[]⟩] 36)) gb A n c l i nm kd nl:=by
 have h1:=nS (vM w (.cells #[.string nm,.int .i64 kd,.bool nl] 82) (.cells #[.int .i64 0,.int .i64 0,.string ⟨#[]⟩] 36));have hr:=bg.made (w.alloc (.cells #[.string nm,.int .i64 kd,.bool nl] 82)) #[.int .i64 0,.int .i64 0,.string ⟨#[]⟩] 36 3 rfl;rw[World.size_alloc]at hr;exact ⟨h1 1 _ rfl,h1 2 _ rfl,hr,h.below below_alloc2,uq _ _,h.lt⟩
theorem VS.step (h:VS w W gb A n c l i nm kd nl)(hg:W.grownBy W' (some gb))(hn:Num W' gb A n c l j):VS w W' gb A n c l j nm kd nl:=by
 have hl:=h.low;have hs:w.heap.size<W.heap.size:=lt_of_cell h.k;have hb: ∀k,w.heap.size<=k->k<W.heap.size->W'.heap[k]?=W.heap[k]?:=λk h1 h2=>hg.block k h2 (λe=>by injection e with e;omega);obtain ⟨cur,hc,hm⟩:=h.blk;exact ⟨(World.cell?_of_block (a:=⟨w.heap.size,1,none⟩) (hb _ (Nat.le_refl _) hs)).trans h.k,(World.cell?_of_block (a:=⟨w.heap.size,2,none⟩) (hb _ (Nat.le_refl _) hs)).trans h.u,
  ⟨cur,(hb _ (Nat.le_succ _) h.blk.lt).trans hc,hm⟩,hn,h.grown.trans hg,hl⟩
theorem VS.below (h:VS w W gb A n c l i nm kd nl)(hb:Below W.heap.size W W'):VS w W' gb A n c l i nm kd nl:=h.step (Below.grows hb _) (h.num.below hb)
end
theorem Num.low {W W':World}{B gb:Nat}{A:Option Addr}{n c:Nat}{l:List Int}{i:Nat}(h:Num W gb A n c l i)(hb:Below B W W')(hgb:gb<B):Num W' gb A n c l i:=by
 obtain ⟨cur,hc,hm⟩:=h.blk;exact ⟨(hb.cell (p:=⟨gb,0,none⟩) hgb).trans h.c0,(hb.cell (p:=⟨gb,1,none⟩) hgb).trans h.c1,⟨cur,(hb.block gb hgb).trans hc,hm⟩,h.lst.keep λk hk=>hb.block k (Nat.lt_trans hk hgb),h.le,h.nn⟩
def DJ (cols:List Col)(x:Ent):Prop:=x.row.length=cols.length/\(∀i,i<cols.length->Fits (cols.getD i default) (x.row.getD i default))/\1<=x.count/\x.count<=2
section
variable {P:Program}
end
def Hi {α:Type}[Rep α](B:Nat)(w:World)(A:Option Addr)(n c:Nat)(xs:List α):Prop:=Sl w (λk=>B<=k/\k<w.heap.size) A n c xs
section
variable {α:Type}[Rep α]{B gb:Nat}{w w':World}{A:Option Addr}{n c:Nat}{xs:List α}
theorem Hi.inn (h:Hi B w A n c xs):In w A n c xs:=Sl.mono (λk hk=>hk.2) h
theorem Hi.off (h:Hi B w A n c xs)(hg:gb<B):Off w gb A n c xs:=Sl.mono (λk hk=>⟨hk.2,by omega⟩) h
theorem Hi.grown {row:Option Nat}(h:Hi B w A n c xs)(hg:w.grownBy w' row)(hr: ∀k,row=some k->k<B):Hi B w' A n c xs:=
 (Sl.keep (λk hk=>hg.block k hk.2 λe=>by have:=hr k e.symm;omega) h).mono λk hk=>⟨hk.1,Nat.lt_of_lt_of_le hk.2 hg.size⟩
theorem Hi.below (h:Hi B w A n c xs)(hb:Below w.heap.size w w'):Hi B w' A n c xs:=h.grown (row:=none) (Below.grows hb _) λk e=>by cases e
end
theorem ay.hi {w w':World}{v:Value}{zs:List Ent}(h:ay w w' v zs): ∃A c,v=.slice A zs.length c/\Hi w.heap.size w' A zs.length c zs:=by
 obtain ⟨cs,h1,h2⟩:=h;obtain ⟨A,c,e,hs,_⟩:=fe (T:=λk=>w.heap.size<=k/\k<w'.heap.size) h1 h2 (λk hk=>⟨hk.1,hk.2.lt⟩) rfl (λg hb hg=>⟨hb,hg.lt⟩);exact ⟨A,c,e,hs⟩
def sG (cols:List Col)(zs:List Ent):Prop:= ∃xs q,(∀x∈xs,DJ cols x)/\xs.length<=1000/\AQ xs q zs
theorem OwnEnts.out {w w':World}{S:Nat->Prop}{v:Value}{zs:List Ent}(h:OwnEnts w w' S v zs)(hS: ∀k,S k->k<w'.heap.size): ∃A c,v=.slice A zs.length c/\In w' A zs.length c zs:=h.sl hS
end Go.Proofs.YtopjjlmfilgngaaGreatDoor
