/-
  inspect.copied: a bag in new memory.
-/
import Derived.Deep.DeepCutAuto
import Derived.Test.YtopjjlmfilgngaaGreatDoorGar
import Derived.Test.YtopjjlmfilgngaaGreatDoorGaq
import Derived.Test.YtopjjlmfilgngaaGreatDoorGau
namespace Go.Proofs.YtopjjlmfilgngaaGreatDoor
open Go.RowKit
set_option linter.unusedSimpArgs false
set_option linter.unusedVariables false
def GU (e:TypeId)(B:Nat)(T:List TypeId)(w:World)(v:Value)(xs:List Ent)(k:Nat):Prop:=
 (∃cs ds,w.ownsRow B e 2 v xs.length (cs++ds)/\Cells w (BS B (λ_=>False) T w) cs (xs.take k)/\Cells w (BS B (λ_=>True) T w) ds (xs.drop k))/\B<=w.heap.size
theorem K8 {B:Nat}{T:List TypeId}{w:World}{k:Nat}(h:BS B (λ_=>False) T w k):BS B (λ_=>True) T w k:=by
 rcases h with ⟨h,_⟩|h
 ·cases h
 ·exact .inr h
theorem GU.start {e:TypeId}{B:Nat}{T:List TypeId}{w:World}{v:Value}{xs:List Ent}(h:OL e B (λ_=>True) T w v xs):GU e B T w v xs 0:=by
 obtain ⟨⟨cs,h1,h2⟩,hb⟩:=h;exact ⟨⟨[],cs,h1,rfl,h2⟩,hb⟩
theorem GU.any {e:TypeId}{B:Nat}{T:List TypeId}{w:World}{v:Value}{xs:List Ent}{k:Nat}(h:GU e B T w v xs k):OL e B (λ_=>True) T w v xs:=by
 obtain ⟨⟨cs,ds,h1,h2,h3⟩,hb⟩:=h;have h4:=Cells.app h3 (h2.mono λ_ hk=>K8 hk);rw[List.take_append_drop]at h4;exact ⟨⟨_,h1,h4⟩,hb⟩
theorem GU.fin {e:TypeId}{B:Nat}{T:List TypeId}{w:World}{v:Value}{xs:List Ent}{k:Nat}(h:GU e B T w v xs k)(hk:xs.length<=k):OL e B (λ_=>False) T w v xs:=by
 obtain ⟨⟨cs,ds,h1,h2,h3⟩,hb⟩:=h;rw[List.drop_eq_nil_of_le hk]at h3;obtain rfl:ds=[]:=h3;rw[List.take_of_length_le hk]at h2;rw[List.append_nil]at h1;exact ⟨⟨_,h1,h2⟩,hb⟩
theorem GU.below {e:TypeId}{B:Nat}{T:List TypeId}{w w1:World}{v:Value}{xs:List Ent}{k:Nat}(h:GU e B T w v xs k)(hb:Below w.heap.size w w1):GU e B T w1 v xs k:=by
 obtain ⟨⟨cs,ds,h1,h2,h3⟩,hB⟩:=h;have k1: ∀j,BS B (λ_=>False) T w j->w1.heap[j]?=w.heap[j]?:=λj hj=>hb.block j (hj.lt hB);have k2: ∀j,BS B (λ_=>True) T w j->w1.heap[j]?=w.heap[j]?:=λj hj=>hb.block j (hj.lt hB);exact ⟨⟨cs,ds,wD h1 λg hg=>hb.block g (pR h1 hg).2.lt,(h2.keep k1).mono λj hj=>hj.kept (k1 j hj),(h3.keep k2).mono λj hj=>hj.kept (k2 j hj)⟩,Nat.le_trans hB hb.size⟩
theorem OL.addr {α:Type}[Rep α]{e:TypeId}{B:Nat}{O:Nat->Prop}{T:List TypeId}{w:World}{A:Option Addr}{n c:Nat}{xs:List α}(h:OL e B O T w (.slice A n c) xs)(hn:0<xs.length): ∃g,A=some ⟨g,0,none⟩/\B<=g/\bi w e g/\ ∀o,w.frozen? ⟨g,o,none⟩=false:=by
 obtain ⟨⟨cs,h1,h2⟩,hb⟩:=h;rcases h1.2 with ⟨_,h0⟩|⟨g,cap,cur,hv,hg,hh,_⟩
 ·omega
 ·injection hv with hv;exact ⟨g,hv,hg,⟨cur,hh⟩,λo=>frozen_of_row w g o _ _ hh⟩
theorem GU.step {e:TypeId}{B:Nat}{T:List TypeId}{w:World}{g n c:Nat}{xs:List Ent}{k:Nat}(h:GU e B T w (.slice (some ⟨g,0,none⟩) n c) xs k)(hT:e∉T){x:Ent}(hk:xs.drop k=x :: xs.drop (k+1)){A1:Option Addr}{m c1:Nat}(hs:Sl w (BS B (λ_=>False) T w) A1 m c1 x.row):
  GU e B T (w.setCell ⟨g,k*2,none⟩ (.slice A1 m c1)) (.slice (some ⟨g,0,none⟩) n c) xs (k+1):=by
 obtain ⟨⟨cs,ds,h1,h2,h3⟩,hb⟩:=h;rw[hk]at h3;obtain ⟨a,b,rfl,⟨A0,n0,c0,rfl,hr1,hr2⟩,hc⟩:=h3;have hlen:cs.length=k*2:=by
  have h4:=h2.len;have h5:k<xs.length:=by
   rcases Nat.lt_or_ge k xs.length with q|q
   ·exact q
   ·rw[List.drop_eq_nil_of_le q]at hk;cases hk
  rw[h4,List.length_take,Nat.min_eq_left (by omega)];rfl
 rcases h1.2 with ⟨hv,_⟩|⟨g',cap,cur,hv,hg,hh,h4,h5,h6,h7⟩
 ·cases hv
 injection hv with hv q1 q2;injection hv with hv;injection hv with hv;subst hv q2;have hS: ∀(O:Nat->Prop) j,BS B O T w j->(w.setCell ⟨g,k*2,none⟩ (.slice A1 m c1)).heap[j]?=w.heap[j]?:=λO j hj=>Below.heap_setCell _ _ _ j (λq=>by
  have q:j=g:=q;subst q;rcases hj with ⟨_,hj⟩|⟨_,t',ht',hj⟩
  ·omega
  ·exact bi.ne ⟨cur,hh⟩ hj (λe'=>hT (e'▸ht')) rfl)
 refine ⟨⟨cs++[.slice A1 m c1,.int .i64 x.count],b,⟨?_,.inr ⟨g,c,cur.setIfInBounds (k*2) (.slice A1 m c1),by rw[q1],hg,by simp[World.setCell,Array.getElem?_modify,hh],h4,h5,by simpa using h6,?_⟩⟩,?_,?_⟩,by simpa[World.setCell] using hb⟩
 ·have h8:=h1.1;simp at h8⊢;omega
 ·rw[Array.toList_setIfInBounds,List.take_set,h7,<-hlen];simp
 ·rw[bN hk];refine Cells.app (Cells.one (show Rep.rd _ _ [.slice A1 m c1,.int .i64 x.count] x from ⟨_,_,_,rfl,(Sl.keep (λj hj=>hS _ j hj) hs).mono λj hj=>hj.kept (hS _ j hj),hr2⟩)) ((h2.keep (hS _)).mono λj hj=>hj.kept (hS _ j hj))
 ·exact (hc.keep (hS _)).mono λj hj=>hj.kept (hS _ j hj)
end Go.Proofs.YtopjjlmfilgngaaGreatDoor
