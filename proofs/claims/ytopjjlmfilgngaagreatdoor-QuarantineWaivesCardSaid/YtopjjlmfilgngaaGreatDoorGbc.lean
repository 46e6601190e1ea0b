/-
  inspect.copied: a bag in new memory. Plain: the checks that chapter 29's laws make. No program is in sight. Plain law: a table of the world is a table: its counts are positive and small, its rows fit. check.Explain for unique checks. (Printed by gen_exp0.py.) Plain law: what the closed example of chapter 28 gives. No program is in sight. inspect.index, Concerned.
-/
import Derived.Deep.DeepCutAuto
import Derived.Deep.DrawnRows
import Derived.Maps.OwnSet
import Derived.Test.YtopjjlmfilgngaaGreatDoorGaq
import Derived.Test.YtopjjlmfilgngaaGreatDoorGao
import Derived.Test.YtopjjlmfilgngaaGreatDoorGad
import Derived.Test.YtopjjlmfilgngaaGreatDoorGax
import Derived.Test.YtopjjlmfilgngaaGreatDoorGap
import Derived.Test.YtopjjlmfilgngaaGreatDoorGat
import Derived.Test.YtopjjlmfilgngaaGreatDoorGaw
import Derived.Test.YtopjjlmfilgngaaGreatDoorGaz
import Derived.Test.YtopjjlmfilgngaaGreatDoorGaa
import Derived.Test.YtopjjlmfilgngaaGreatDoorGai
import Derived.Test.YtopjjlmfilgngaaGreatDoorGak
import Derived.Test.YtopjjlmfilgngaaGreatDoorBlk
import Derived.Test.YtopjjlmfilgngaaGreatDoorGam
import Derived.Test.YtopjjlmfilgngaaGreatDoorGac
namespace Go.Proofs.YtopjjlmfilgngaaGreatDoor
open Go.RowKit
set_option linter.unusedSimpArgs false
set_option linter.unusedVariables false
def Pf (e:TypeId)(B:Nat)(T:List TypeId)(w:World)(v:Value)(xs:List Ent)(k:Nat):Prop:=
 (∃cs ds,w.ownsRow B e 2 v xs.length (cs++ds)/\Cells w (BS B (λ_=>False) T w) cs (xs.take k)/\Cells w (BS B (λ_=>True) T w) ds (xs.drop k))/\B<=w.heap.size
theorem SN {B:Nat}{T:List TypeId}{w:World}{k:Nat}(h:BS B (λ_=>False) T w k):BS B (λ_=>True) T w k:=by
 rcases h with ⟨h,_⟩|h
 ·cases h
 ·exact .inr h
theorem Pf.start {e:TypeId}{B:Nat}{T:List TypeId}{w:World}{v:Value}{xs:List Ent}(h:OL e B (λ_=>True) T w v xs):Pf e B T w v xs 0:=by
 obtain ⟨⟨cs,h1,h2⟩,hb⟩:=h;exact ⟨⟨[],cs,h1,rfl,h2⟩,hb⟩
theorem Pf.any {e:TypeId}{B:Nat}{T:List TypeId}{w:World}{v:Value}{xs:List Ent}{k:Nat}(h:Pf e B T w v xs k):OL e B (λ_=>True) T w v xs:=by
 obtain ⟨⟨cs,ds,h1,h2,h3⟩,hb⟩:=h;have h4:=Cells.app h3 (h2.mono λ_ hk=>SN hk);rw[List.take_append_drop]at h4;exact ⟨⟨_,h1,h4⟩,hb⟩
theorem Pf.below {e:TypeId}{B:Nat}{T:List TypeId}{w w1:World}{v:Value}{xs:List Ent}{k:Nat}(h:Pf e B T w v xs k)(hb:Below w.heap.size w w1):Pf e B T w1 v xs k:=by
 obtain ⟨⟨cs,ds,h1,h2,h3⟩,hB⟩:=h;have k1: ∀j,BS B (λ_=>False) T w j->w1.heap[j]?=w.heap[j]?:=λj hj=>hb.block j (hj.lt hB);have k2: ∀j,BS B (λ_=>True) T w j->w1.heap[j]?=w.heap[j]?:=λj hj=>hb.block j (hj.lt hB);exact ⟨⟨cs,ds,CB h1 λg hg=>hb.block g (vg h1 hg).2.lt,(h2.keep k1).mono λj hj=>hj.kept (k1 j hj),(h3.keep k2).mono λj hj=>hj.kept (k2 j hj)⟩,Nat.le_trans hB hb.size⟩
theorem OL.addr {α:Type}[Rep α]{e:TypeId}{B:Nat}{O:Nat->Prop}{T:List TypeId}{w:World}{A:Option Addr}{n c:Nat}{xs:List α}(h:OL e B O T w (.slice A n c) xs)(hn:0<xs.length): ∃g,A=some ⟨g,0,none⟩/\B<=g/\dm w e g/\ ∀o,w.frozen? ⟨g,o,none⟩=false:=by
 obtain ⟨⟨cs,h1,h2⟩,hb⟩:=h;rcases h1.2 with ⟨_,h0⟩|⟨g,cap,cur,hv,hg,hh,_⟩
 ·omega
 ·injection hv with hv;exact ⟨g,hv,hg,⟨cur,hh⟩,λo=>frozen_of_row w g o _ _ hh⟩
theorem Pf.step {e:TypeId}{B:Nat}{T:List TypeId}{w:World}{g n c:Nat}{xs:List Ent}{k:Nat}(h:Pf e B T w (.slice (some ⟨g,0,none⟩) n c) xs k)(hT:e∉T){x:Ent}(hk:xs.drop k=x :: xs.drop (k+1)){A1:Option Addr}{m c1:Nat}(hs:Sl w (BS B (λ_=>False) T w) A1 m c1 x.row):
  Pf e B T (w.setCell ⟨g,k*2,none⟩ (.slice A1 m c1)) (.slice (some ⟨g,0,none⟩) n c) xs (k+1):=by
 obtain ⟨⟨cs,ds,h1,h2,h3⟩,hb⟩:=h;rw[hk]at h3;obtain ⟨a,b,rfl,⟨A0,n0,c0,rfl,hr1,hr2⟩,hc⟩:=h3;have hlen:cs.length=k*2:=by
  have h4:=h2.len;have h5:k<xs.length:=by
   rcases Nat.lt_or_ge k xs.length with q|q
   ·exact q
   ·rw[List.drop_eq_nil_of_le q]at hk;cases hk
  rw[h4,List.length_take,Nat.min_eq_left (by omega)];rfl
 rcases h1.2 with ⟨hv,_⟩|⟨g',cap,cur,hv,hg,hh,h4,h5,h6,h7⟩
 ·cases hv
 injection hv with hv q1 q2;injection hv with hv;injection hv with hv;subst hv q2;have hS: ∀(O:Nat->Prop) j,BS B O T w j->(w.setCell ⟨g,k*2,none⟩ (.slice A1 m c1)).heap[j]?=w.heap[j]?:=λO j hj=>Below.heap_setCell _ _ _ j (λq=>by
  have q:j=g:=q;subst q;rcases hj with ⟨_,hj⟩|⟨_,t',ht',hj⟩
  ·omega
  ·exact dm.ne ⟨cur,hh⟩ hj (λe'=>hT (e'▸ht')) rfl)
 refine ⟨⟨cs++[.slice A1 m c1,.int .i64 x.count],b,⟨?_,.inr ⟨g,c,cur.setIfInBounds (k*2) (.slice A1 m c1),by rw[q1],hg,by simp[World.setCell,Array.getElem?_modify,hh],h4,h5,by simpa using h6,?_⟩⟩,?_,?_⟩,by simpa[World.setCell] using hb⟩
 ·have h8:=h1.1;simp at h8⊢;omega
 ·rw[Array.toList_setIfInBounds,List.take_set,h7,<-hlen];simp
 ·rw[bg hk];refine Cells.app (Cells.one (show Rep.rd _ _ [.slice A1 m c1,.int .i64 x.count] x from ⟨_,_,_,rfl,(Sl.keep (λj hj=>hS _ j hj) hs).mono λj hj=>hj.kept (hS _ j hj),hr2⟩)) ((h2.keep (hS _)).mono λj hj=>hj.kept (hS _ j hj))
 ·exact (hc.keep (hS _)).mono λj hj=>hj.kept (hS _ j hj)
def nV:ByteArray:=⟨#[118]⟩
def TQ:ByteArray:=⟨#[105,100]⟩
def qL:ByteArray:=⟨#[110,97,109,101]⟩
def gV:List Col:=[cId false,VK true,⟨nV,2,true⟩]
theorem EQ: ∀x∈gV,x.good:=by
 intro x hx;simp only[gV,List.mem_cons,List.not_mem_nil,or_false]at hx;rcases hx with rfl|rfl|rfl <;> refine ⟨Tm ?_ ?_ ?_,?_,?_⟩ <;> decide
theorem Ti {cols:List Col}{xs:List Ent}(h: ∀x∈xs,GI cols x)(r:List Val):0<=cnt xs r/\cnt xs r<=2*(xs.length:Int):=by
 induction xs with
 |nil=>simp[cnt]
 |cons x l ih=>
  have h1:=(h x (by simp)).2.2;have h2:=ih λy hy=>h y (by simp[hy]);rw[cnt,List.length_cons]
  split <;> omega
theorem sV.tab {cols:List Col}(hl:cols.length<=12){zs:List Ent}(h:sV cols zs):(∀x∈zs,0<x.count/\x.count<=2000)/\bP cols zs=0:=by
 obtain ⟨hb,hr,_⟩:=h.bag hl;obtain ⟨xs,q,h1,h2,h3⟩:=h;have hn:=zK h3;rw[zJ λx hx=>Ad hl (h1 x hx)]at hn;have hc: ∀x∈zs,0<x.count/\x.count<=2000:=by
  intro x hx;have hz:x.count≠0:=((iN.1 hb).2.1 x hx).2;rcases EM xs with e|⟨_,e⟩
  ·have c:=EL e x.row;rw[hn]at c;have d:=(j6 hb).mem hx;have b:=Ti h1 x.row;have c':cnt zs x.row=cnt xs x.row:=c;omega
  ·rw[hn]at e;have e':zs=[]:=e;subst e';cases hx
 refine ⟨hc,?_⟩;have ht:dZ zs=true:=by
  rw[dZ,hb];simp only[BEq.rfl,Bool.true_and,List.all_eq_true,decide_eq_true_eq];exact λx hx=>by have:=hc x hx;omega
 rw[bP,if_neg (by simp[hb]),ht,if_neg (by simp)];exact uQ.2 λj x hx=>hr x (List.mem_iff_getElem?.2 ⟨j,hx⟩)
open Go.RowKit Go.Maps
attribute [local go_sem ↓] Go.wp_at_zero Go.wp_at_succ
instance:One (List Val):=⟨by rintro w S cs a ⟨A,n,c,rfl,_⟩ u hu;simp at hu;subst hu;rfl⟩
structure RsnAt (w:World) (g:Nat) (nm:ByteArray) (A:Option Addr) (n c:Nat) (v:Value):Prop where
 c0:w.cell? ⟨g,0,none⟩=some (.string nm)
 c1:w.cell? ⟨g,1,none⟩=some (.slice A n c)
 c2:w.cell? ⟨g,2,none⟩=some v
 fz:w.frozen? ⟨g,2,none⟩=false
 ty:dm w 78 g
theorem RsnAt.lt {w:World}{g:Nat}{nm:ByteArray}{A:Option Addr}{n c:Nat}{v:Value}(h:RsnAt w g nm A n c v):g<w.heap.size:=lt_of_cell h.c0
theorem RsnAt.below {w w':World}{g:Nat}{nm:ByteArray}{A:Option Addr}{n c:Nat}{v:Value}(h:RsnAt w g nm A n c v)(hb:Below w.heap.size w w'):RsnAt w' g nm A n c v:=
 ⟨ah hb h.lt h.c0,ah hb h.lt h.c1,ah hb h.lt h.c2,((au hb).2 g 2 h.lt).trans h.fz,h.ty.below hb⟩
theorem RsnAt.grown {w w':World}{g:Nat}{nm:ByteArray}{A:Option Addr}{n c:Nat}{v:Value}(h:RsnAt w g nm A n c v){row:Option Nat}(hg:w.grownBy w' row)(hr:some g≠row):RsnAt w' g nm A n c v:=by
 have hb:=hg.block g h.lt hr;refine ⟨(World.cell?_of_block (a:=⟨g,0,none⟩) hb).trans h.c0,(World.cell?_of_block (a:=⟨g,1,none⟩) hb).trans h.c1,(World.cell?_of_block (a:=⟨g,2,none⟩) hb).trans h.c2,?_,?_⟩
 ·obtain ⟨c,hc⟩:=h.ty;exact frozen_of_row w' g 2 c _ (hb.trans hc)
 ·obtain ⟨c,hc⟩:=h.ty;exact ⟨c,hb.trans hc⟩
theorem RsnAt.set2 {w:World}{g:Nat}{nm:ByteArray}{A:Option Addr}{n c:Nat}{v:Value}(h:RsnAt w g nm A n c v)(u:Value):RsnAt (w.setCell ⟨g,2,none⟩ u) g nm A n c u:=
 ⟨ag h.c0 (.inr (by omega)),ag h.c1 (.inr (by omega)),cO h.c2,by rw[World.frozen?_setCell];exact h.fz,h.ty.set _ _ _⟩
def kA:ByteArray:=⟨#[97]⟩
def kB:ByteArray:=⟨#[98]⟩
def iV (n:Int):Val:=⟨2,n,⟨#[]⟩⟩
def DF:List Col:=[⟨kA,2,false⟩,⟨kB,2,false⟩]
theorem jN.len {P:Program}{t K e:TypeId}{w:World}{b n:Nat}{z:Value}{f:ByteArray->Value}(h:jN P K w b n z f)(ht:P.underlying t=some (.map K e))(ty:TypeId):
  ∃L:Nat,(L=0-> ∀s,f s=z)/\ ∀V:World,V.heap[b]?=w.heap[b]?->(Builtin.len_ #[t] ty #[.map (some b)]).run P V=.ok (.int .i64 L) V:=by
 obtain ⟨D,h1,h2,h3⟩:=h;refine ⟨Maps.size D,λh0 s=>?_,λV hV=>?_⟩
 ·obtain ⟨es,clock,_,_,_,rfl⟩:=h1;have h4:=h3 s;rw[Maps.size_eq]at h0;rw[List.eq_nil_of_length_eq_zero h0]at h4;exact (DataW.held.inj h4).symm
 ·obtain ⟨es,clock,k1,k2⟩:=h1;exact World.ownsMap.len (w:=V) ⟨es,clock,hV.trans k1,k2⟩ ht ty
end Go.Proofs.YtopjjlmfilgngaaGreatDoor
