/-
  warehouseref6.merge. warehouseref6.sorted. warehouseref6.result: the entries with counts that are not 0, with rows in new memory. warehouseref6.Sum and Normalize.
-/
import Derived.Test.YtopjjlmfilgngaaGreatDoorProg
import Derived.Test.YtopjjlmfilgngaaGreatDoorGac
import Derived.Test.YtopjjlmfilgngaaGreatDoorGae
import Derived.Test.YtopjjlmfilgngaaGreatDoorGaa
import Derived.Test.YtopjjlmfilgngaaGreatDoorGad
namespace Go.Proofs.YtopjjlmfilgngaaGreatDoor
open Go.RowKit
set_option linter.unusedSimpArgs false
set_option linter.unusedVariables false
theorem Bz:(Tryz.prog.info? 50).map (λi=>(i.zero,i.size,i.bytes))=some (some (.agg #[.slice none 0 0,.int .i64 0]),2,32):=by kernel_rfl
structure OwnEnts (w w':World) (S:Nat->Prop) (v:Value) (zs:List Ent):Prop where
 own: ∃cs,w'.ownsRow w.heap.size 50 2 v zs.length cs/\Cells w' S cs zs
theorem Cv {w w':World}{base:Nat}{e:TypeId}{size:Nat}{v:Value}{n:Nat}{xs:List Value}(h:w.ownsRow base e size v n xs)(hk: ∀g,v.ownBlock=some g->w'.heap[g]?=w.heap[g]?):w'.ownsRow base e size v n xs:=by
 refine ⟨h.1,?_⟩;rcases h.2 with h2|⟨g,cap,cur,rfl,hg,hh,r⟩
 ·exact .inl h2
 ·exact .inr ⟨g,cap,cur,rfl,hg,by rw[hk g rfl];exact hh,r⟩
theorem OwnEnts.any {w w':World}{S:Nat->Prop}{v:Value}{zs:List Ent}(h:OwnEnts w w' S v zs){n:Nat}:OwnEnts w (w'.drewN n) S v zs:=by
 obtain ⟨cs,h1,h2⟩:=h.own;exact ⟨cs,h1,Cells.keep (show Same S w' (w'.drewN n) from λ_ _=>rfl) h2⟩
theorem Sl.tail {α:Type}[Rep α]{w:World}{S:Nat->Prop}{A:Option Addr}{n c k:Nat}{xs:List α}(h:Sl w S A n c xs)(hk:k<=n):
  Sl w S (if c=k then A else A.map (·.add (k*Rep.size α))) (n-k) (c-k) (xs.drop k):=by
 refine ⟨by rw[List.length_drop,h.1],by have:=h.2.1;omega,by have:=h.2.2.1;omega,λhA=>?_,λhn=>?_⟩
 ·by_cases hc:c=k
  ·omega
  ·rw[if_neg hc]at hA;have:=h.2.2.2.1 (by cases A with|none=>rfl|some a=>cases hA);omega
 ·obtain ⟨b,off,e,hb,hi⟩:=h.2.2.2.2 (by omega);have:=h.2.1;rw[if_neg (by omega),e];refine ⟨b,off+k*Rep.size α,by rw[Option.map_some,ma],hb,λi hi'=>?_⟩;rw[List.length_drop]at hi';have:=hi (k+i) (by omega);rw[List.getElem_drop,show off+k*Rep.size α+i*Rep.size α=off+(k+i)*Rep.size α from by rw[Nat.add_mul];omega];exact this
theorem OwnEnts.add {w wr w1:World}{S:Nat->Prop}{v1:Value}{zs:List Ent}{cs:List Value}{x:Ent}{A:Option Addr}{n c:Nat}(hS: ∀k,S k->k<w.heap.size)(hc:Cells wr S cs zs)(hx:Sl w S A n c x.row)(h64:dB x.count)(hb:Below w.heap.size w wr)(hw:Below w.heap.size wr w1)(hown:w1.ownsRow w.heap.size 50 2 v1 (zs.length+1) (cs++[.slice A n c,.int .i64 x.count])):OwnEnts w w1 S v1 (zs++[x]):=by
 have h1:Same S wr w1:=(Same.below hw).sub hS;have h2:Same S w w1:=(Same.below (hb.trans hw)).sub hS;have h3:Rep.rd w1 S [.slice A n c,.int .i64 x.count] x:=⟨A,n,c,rfl,hx.keep h2,h64⟩;exact ⟨_,by rw[List.length_append];exact hown,Cells.app (Cells.one h3) (hc.keep h1)⟩
theorem Dp.tail {C:Int}{us l:List Ent}{x:Ent}(h:Dp C us)(e:us.drop 0=x :: l):Dp C l/\(-C<=x.count/\x.count<=C):=by
 rw[List.drop_zero]at e;subst e;exact ⟨λy hy=>h y (List.mem_cons_of_mem _ hy),h x (List.mem_cons_self ..)⟩
theorem Sl.head {α:Type}[Rep α]{w:World}{S:Nat->Prop}{A:Option Addr}{n c k:Nat}{xs:List α}(h:Sl w S A n c xs)(hk:k<=n):Sl w S A k c (xs.take k):=by
 refine ⟨by rw[List.length_take,h.1];omega,by have:=h.2.1;omega,h.2.2.1,h.2.2.2.1,λhn=>?_⟩;obtain ⟨b,off,e,hb,hi⟩:=h.2.2.2.2 (by omega);refine ⟨b,off,e,hb,λi hi'=>?_⟩;rw[List.length_take]at hi';rw[List.getElem_take];exact hi i (by omega)
theorem OwnEnts.sl {w w':World}{S:Nat->Prop}{v:Value}{zs:List Ent}(h:OwnEnts w w' S v zs)(hS: ∀k,S k->k<w'.heap.size): ∃A c,v=.slice A zs.length c/\In w' A zs.length c zs:=by
 obtain ⟨cs,h1,h2⟩:=h.own;obtain ⟨A,c,e,hs,_⟩:=fe (T:=λk=>k<w'.heap.size) h1 h2 hS rfl (λg _ hg=>hg.lt);exact ⟨A,c,e,hs⟩
theorem Dp.take {C:Int}{l:List Ent}(h:Dp C l)(k:Nat):Dp C (l.take k):=λx hx=>h x (List.mem_of_mem_take hx)
theorem Dp.drop {C:Int}{l:List Ent}(h:Dp C l)(k:Nat):Dp C (l.drop k):=λx hx=>h x (List.mem_of_mem_drop hx)
theorem Cw {w:World}{base:Nat}{e:TypeId}{size:Nat}{v:Value}{n:Nat}{xs:List Value}(h:w.ownsRow base e size v n xs){g:Nat}(hg:v.ownBlock=some g):aZ w e g:=by
 rcases h.2 with ⟨rfl,_⟩|⟨g',cap,cur,rfl,_,hh,_⟩
 ·simp[Value.ownBlock]at hg
 ·simp[Value.ownBlock]at hg;subst hg;exact ⟨cur,hh⟩
def ay (w w':World)(v:Value)(zs:List Ent):Prop:= ∃cs,w'.ownsRow w.heap.size 50 2 v zs.length cs/\Cells w' (New w w' 36) cs zs
theorem Cq {w w0 w1:World}{v:Value}{base n:Nat}{cs:List Value}(hown:w0.ownsRow base 50 2 v n cs)(hs: ∀k,k<w0.heap.size->v.ownBlock≠some k->w1.heap[k]?=w0.heap[k]?):
  Same (New w w0 36) w0 w1/\ ∀k,New w w0 36 k->New w w1 36 k:=by
 have h1:Same (New w w0 36) w0 w1:=λk hk=>hs k hk.2.lt λe=>by
  have h2:=Cw hown e;exact aZ.ne h2 hk.2 (by decide) rfl
 refine ⟨h1,λk hk=>⟨hk.1,?_⟩⟩;obtain ⟨c,hc⟩:=hk.2;exact ⟨c,(h1 k hk).trans hc⟩
theorem ay.below {w w' w1:World}{v:Value}{zs:List Ent}(h:ay w w' v zs)(hb:Below w'.heap.size w' w1):ay w w1 v zs:=by
 obtain ⟨cs,h1,h2⟩:=h;refine ⟨cs,Cv h1 (λg hg=>hb.block g (h1.lt g hg).2),(h2.keep ((Same.below hb).sub λk hk=>hk.2.lt)).mono λk hk=>⟨hk.1,hk.2.below hb⟩⟩
theorem ay.sl {w w':World}{v:Value}{zs:List Ent}(h:ay w w' v zs): ∃A c,v=.slice A zs.length c/\In w' A zs.length c zs:=by
 obtain ⟨cs,h1,h2⟩:=h;obtain ⟨A,c,e,hs,_⟩:=fe (T:=λk=>k<w'.heap.size) h1 h2 (λk hk=>hk.2.lt) rfl (λg _ hg=>hg.lt);exact ⟨A,c,e,hs⟩
theorem ay.add {w w0 w1:World}{v v1:Value}{zs:List Ent}{cs:List Value}{x:Ent}{A:Option Addr}{n c:Nat}(hown:w0.ownsRow w.heap.size 50 2 v zs.length cs)(hc:Cells w0 (New w w0 36) cs zs)(hx:Sl w0 (New w w0 36) A n c x.row)(h64:dB x.count)(hs: ∀k,k<w0.heap.size->v.ownBlock≠some k->w1.heap[k]?=w0.heap[k]?)(hown1:w1.ownsRow w.heap.size 50 2 v1 (zs.length+1) (cs++[.slice A n c,.int .i64 x.count])):ay w w1 v1 (zs++[x]):=by
 obtain ⟨h1,h2⟩:=Cq (w:=w) hown hs;have h3:Rep.rd w1 (New w w1 36) [.slice A n c,.int .i64 x.count] x:=⟨A,n,c,rfl,(hx.keep h1).mono h2,h64⟩;exact ⟨_,by rw[List.length_append];exact hown1,Cells.app (Cells.one h3) ((hc.keep h1).mono h2)⟩
theorem qc: ∀{xs:List Val} {w:World} {S:Nat->Prop} {cs:List Value},Cells w S cs xs-> ∀u∈cs,u.oneCell'=true
 | [],_,_,_,h,u,hu=>by rw[show _=[] from h]at hu;cases hu
 |x :: xs,_,_,_,⟨c0,c1,rfl,h0,h1⟩,u,hu=>by
  rcases List.mem_append.1 hu with h|h
  ·have e:c0=x.cells:=h0.1;rw[e]at h;simp[Val.cells]at h;rcases h with rfl|rfl|rfl <;> rfl
  ·exact qc h1 u h
theorem lN: ∀{xs:List Val} {w w':World} {S T:Nat->Prop} {cs:List Value},Cells w S cs xs->Cells w' T cs xs
 | [],_,_,_,_,_,h=>h
 |x :: xs,_,_,_,_,_,⟨c0,c1,e,h0,h1⟩=>⟨c0,c1,e,h0,lN h1⟩
theorem ay.base {w w0 w1:World}{v:Value}{zs:List Ent}(h:ay w0 w1 v zs)(hb:w.heap.size<=w0.heap.size):ay w w1 v zs:=by
 obtain ⟨cs,h1,h2⟩:=h;refine ⟨cs,⟨h1.1,?_⟩,h2.mono λk hk=>⟨Nat.le_trans hb hk.1,hk.2⟩⟩;rcases h1.2 with h|⟨g,cap,cur,e,hg,r⟩
 ·exact .inl h
 ·exact .inr ⟨g,cap,cur,e,Nat.le_trans hb hg,r⟩
def FN (xs:List Ent)(m:Int)(zs:List Ent):Prop:=(m=2/\dJ 0 (kT xs)=true/\zs=[])\/(m=0/\dJ 0 (kT xs)=false/\zs=dh (kT xs))
def AQ (xs:List Ent)(m:Int)(zs:List Ent):Prop:=
 (ag (λ_ x=>aS x) 0 xs≠0/\m=ag (λ_ x=>aS x) 0 xs/\zs=[])\/(ag (λ_ x=>aS x) 0 xs=0/\FN xs m zs)
end Go.Proofs.YtopjjlmfilgngaaGreatDoor
