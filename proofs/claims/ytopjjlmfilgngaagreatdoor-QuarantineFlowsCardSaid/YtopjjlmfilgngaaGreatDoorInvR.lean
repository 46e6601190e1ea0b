/-
  A region that draws its order, by an invariant over what has come up: each operation is met once, whatever came up ahead of it. No program is in sight.
-/
import Derived.OrdersHeld
import Derived.RegionTactic
import Derived.Test.YtopjjlmfilgngaaGreatDoorGac
namespace Go.Proofs.YtopjjlmfilgngaaGreatDoor
open Go.RowKit
set_option linter.unusedSimpArgs false
set_option linter.unusedVariables false
theorem Ck {p q:Nat->Bool}: ∀(l:List Nat),(∀x∈l,q x=true->p x=true)->(∃i∈l,p i=true/\q i=false)->(l.filter q).length<(l.filter p).length
 | [],_,h=>by obtain ⟨i,hi,_⟩:=h;cases hi
 |x :: l,h1,h2=>by
  have h3: ∀y∈l,q y=true->p y=true:=λy hy=>h1 y (by simp[hy]);have h4: ∀m:List Nat,(∀y∈m,q y=true->p y=true)->(m.filter q).length<=(m.filter p).length:=λm=>by
   induction m with
   |nil=>simp
   |cons y m ih=>
    intro h;have a:=ih λz hz=>h z (by simp[hz]);have b:=h y (by simp);rw[List.filter_cons,List.filter_cons];cases hq:q y
    ·cases hp:p y <;> simp <;> omega
    ·rw[b hq];simp;omega
  have h5:=h4 l h3;by_cases hx:p x=true/\q x=false
  ·rw[List.filter_cons,List.filter_cons,hx.1,hx.2];simp;omega
  ·have h6:=Ck l h3 (by
    obtain ⟨i,hi,hpi,hqi⟩:=h2;rcases List.mem_cons.1 hi with rfl|hi
    ·exact absurd ⟨hpi,hqi⟩ hx
    ·exact ⟨i,hi,hpi,hqi⟩)
   have b:=h1 x (by simp);rw[List.filter_cons,List.filter_cons];cases hq:q x
   ·cases hp:p x
    ·simp;omega
    ·exact absurd ⟨hp,hq⟩ hx
   ·rw[b hq];simp;omega
section
variable {P:Program}{ops:Array Oper}{Q:Exit->Act->World->Prop}
def left (ops:Array Oper)(l:Array Bool):Nat:=((List.range ops.size).filter λj=>!l.getD j true).length
theorem zo {l:Array Bool}{i:Nat}(hi:i<ops.size)(h:l.getD i true=false):left ops (l.setIfInBounds i true)<left ops l:=by
 have hlt:i<l.size:=by
  rcases Nat.lt_or_ge i l.size with h'|h'
  ·exact h'
  ·rw[Array.getD_eq_getD_getElem?,Array.getElem?_eq_none h']at h;cases h
 refine Ck _ (λx _ hx=>?_) ⟨i,List.mem_range.2 hi,by simp[h],?_⟩
 ·by_cases e:i=x
  ·subst e;simp[h]
  ·simpa[Array.getD_eq_getD_getElem?,Array.getElem?_setIfInBounds_ne e] using hx
 ·simp[Array.getD_eq_getD_getElem?,hlt]
theorem Ed (Inv:(Nat->Bool)->Act->World->Prop)(hs: ∀L i o a w,ops[i]?=some o->L i=false->(∀e∈o.after,Region.binds .any e=true->L e.on=true)->Inv L a w->wpOp P ops Q i (λa' w'=>Inv (λj=>decide (j=i) || L j) a' w') a w)(hend: ∀L a w,(∀j,j<ops.size->L j=true)->Inv L a w->Q .normal a w)(hac: ∀i o,ops[i]?=some o-> ∀e∈o.after,Region.binds .any e=true->e.on<i):
  ∀(fuel:Nat) (l:Array Bool) (a:Act) (w:World),l.size=ops.size->left ops l<=fuel->Inv (λj=>l.getD j false) a w->wpAny P .any ops Q fuel l a w:=by
 have hall: ∀l:Array Bool,l.size=ops.size->Region.ready .any ops l=[]-> ∀j,j<ops.size->l.getD j false=true:=λl hl hr j=>by
  induction j using Nat.strongRecOn with
  | _ j ih=>
   intro hj;cases hb:l.getD j false
   ·have hlj:j<l.size:=by omega
    have hb2:l.getD j true=false:=by
     rw[Array.getD_eq_getD_getElem?,Array.getElem?_eq_getElem hlj]at hb⊢;exact hb
    have hm:j∈Region.ready .any ops l:=mem_ready.2 ⟨hb2,ops[j],Array.getElem?_eq_getElem hj,λe he h=>by
     have hlt:=hac j _ (Array.getElem?_eq_getElem hj) e he h;exact ih e.on hlt (by omega)⟩
    rw[hr]at hm;cases hm
   ·rfl
 intro fuel
 induction fuel with
 |zero=>
  intro l a w hl h0 hI;have hr:Region.ready .any ops l=[]:=List.eq_nil_iff_forall_not_mem.2 λi hi=>by
   obtain ⟨h1,o,ho,_⟩:=mem_ready.1 hi;have hlt:i<ops.size:=by
    rcases Nat.lt_or_ge i ops.size with h'|h'
    ·exact h'
    ·rw[Array.getElem?_eq_none h']at ho;cases ho
   have:=zo (ops:=ops) hlt h1;omega
  exact ⟨hr,hend _ a w (hall l hl hr) hI⟩
 |succ fuel ih=>
  intro l a w hl h0 hI;refine ⟨λhr=>hend _ a w (hall l hl hr) hI,λi hi=>?_⟩;obtain ⟨h1,o,ho,h2⟩:=mem_ready.1 hi;have hlt:i<ops.size:=by
   rcases Nat.lt_or_ge i ops.size with h'|h'
   ·exact h'
   ·rw[Array.getElem?_eq_none h']at ho;cases ho
  have hil:i<l.size:=by omega
  have h3:l.getD i false=false:=by
   rw[Array.getD_eq_getD_getElem?,Array.getElem?_eq_getElem hil]at h1⊢;exact h1
  refine wpOp_mono (λa' w' h4=>ih (l.setIfInBounds i true) a' w' (by simpa using hl) (by have:=zo (ops:=ops) hlt h1;omega) ?_) (hs _ i o a w ho h3 h2 hI);have e:(λj=>(l.setIfInBounds i true).getD j false)=λj=>decide (j=i) || l.getD j false:=by
   funext j
   by_cases q:i=j
   ·subst q;simp[Array.getD_eq_getD_getElem?,hil]
   ·have q2:decide (j=i)=false:=by simpa using λh:j=i=>q h.symm
    simp[Array.getD_eq_getD_getElem?,Array.getElem?_setIfInBounds_ne q,q2]
  rw[e];exact h4
theorem vD {id:Nat}{a:Act}{w:World}(hm:P.follows .mixedOrders=true)(Inv:(Nat->Bool)->Act->World->Prop)(h0:Inv (λ_=>false) a w.drew)(hac: ∀i o,ops[i]?=some o-> ∀e∈o.after,Region.binds .any e=true->e.on<i)(hs: ∀L i o a w,ops[i]?=some o->L i=false->(∀e∈o.after,Region.binds .any e=true->L e.on=true)->Inv L a w->wpOp P ops Q i (λa' w'=>Inv (λj=>decide (j=i) || L j) a' w') a w)(hend: ∀L a w,(∀j,j<ops.size->L j=true)->Inv L a w->Q .normal a w):(Code.region id ops true).wp P Q a w:=by
 refine wp_region_any hm (Ed Inv hs hend hac ops.size _ a _ (by simp) ?_ ?_)
 ·refine Nat.le_trans (List.length_filter_le _ _) (by simp)
 ·have e:(λj=>(Array.replicate ops.size false).getD j false)=λ_=>false:=by
   funext j
   rw[Array.getD_eq_getD_getElem?];by_cases h:j<ops.size
   ·simp[h]
   ·simp[h]
  rw[e];exact h0
def Li (ops:Array Oper)(deps:Nat->List Nat):Bool:=(List.range ops.size).all λi=>match ops[i]? with
 |some o=>(o.after.all λe=>!Region.binds .any e || decide (e.on<i))&&(deps i).all λd=>o.after.any λe=>Region.binds .any e&&e.on==d
 |none=>true
theorem uK {id:Nat}{a:Act}{w:World}(hm:P.follows .mixedOrders=true)(deps:Nat->List Nat)(he:Li ops deps=true)(Inv:(Nat->Bool)->Act->World->Prop)(h0:Inv (λ_=>false) a w.drew)(hs: ∀L i a w,i<ops.size->L i=false->(∀d∈deps i,L d=true)->Inv L a w->wpOp P ops Q i (λa' w'=>Inv (λj=>decide (j=i) || L j) a' w') a w)(hend: ∀L a w,(∀j,j<ops.size->L j=true)->Inv L a w->Q .normal a w):(Code.region id ops true).wp P Q a w:=by
 have hE: ∀i o,ops[i]?=some o->i<ops.size/\(∀e∈o.after,Region.binds .any e=true->e.on<i)/\ ∀d∈deps i,∃e∈o.after,Region.binds .any e=true/\e.on=d:=λi o ho=>by
  have hlt:i<ops.size:=by
   rcases Nat.lt_or_ge i ops.size with h'|h'
   ·exact h'
   ·rw[Array.getElem?_eq_none h']at ho;cases ho
  have h1:=List.all_eq_true.1 he i (List.mem_range.2 hlt);rw[ho]at h1;simp only[Bool.and_eq_true]at h1;refine ⟨hlt,λe hm hb=>?_,λd hd=>?_⟩
  ·have h2:=Array.all_eq_true_iff_forall_mem.1 h1.1 e hm;simpa[hb] using h2
  ·have h2:=List.all_eq_true.1 h1.2 d hd;obtain ⟨e,hm,h3⟩:=Array.any_eq_true'.1 h2;rw[Bool.and_eq_true,beq_iff_eq]at h3;exact ⟨e,hm,h3⟩
 refine vD hm Inv h0 (λi o ho=>(hE i o ho).2.1) (λL i o a w ho hL h2 hI=>hs L i a w (hE i o ho).1 hL (λd hd=>?_) hI) hend;obtain ⟨e,h3,h4,rfl⟩:=(hE i o ho).2.2 d hd;exact h2 e h3 h4
end
end Go.Proofs.YtopjjlmfilgngaaGreatDoor
