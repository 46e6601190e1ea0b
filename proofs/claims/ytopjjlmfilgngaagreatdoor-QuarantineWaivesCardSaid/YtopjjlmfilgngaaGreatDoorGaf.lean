/-
  A region that draws its order, by an invariant over what has come up: each operation is met once, whatever came up ahead of it. No program is in sight. A region that draws its order, by what each operation leaves in its slot: facts that stand as long as the world changes only by R, until some other operation has come up. No program is in sight.
-/
import Derived.OrdersHeld
import Derived.RegionTactic
import Derived.Test.YtopjjlmfilgngaaGreatDoorGac
namespace Go.Proofs.YtopjjlmfilgngaaGreatDoor
open Go.RowKit
set_option linter.unusedSimpArgs false
set_option linter.unusedVariables false
theorem Jq {p q:Nat->Bool}: ∀(l:List Nat),(∀x∈l,q x=true->p x=true)->(∃i∈l,p i=true/\q i=false)->(l.filter q).length<(l.filter p).length
 | [],_,h=>by obtain ⟨i,hi,_⟩:=h;cases hi
 |x :: l,h1,h2=>by
  have h3: ∀y∈l,q y=true->p y=true:=λy hy=>h1 y (by simp[hy]);have h4: ∀m:List Nat,(∀y∈m,q y=true->p y=true)->(m.filter q).length<=(m.filter p).length:=λm=>by
   induction m with
   |nil=>simp
   |cons y m ih=>
    intro h;have a:=ih λz hz=>h z (by simp[hz]);have b:=h y (by simp);rw[List.filter_cons,List.filter_cons];cases hq:q y
    ·cases hp:p y <;> simp <;> omega
    ·rw[b hq];simp;omega
  have h5:=h4 l h3;by_cases hx:p x=true/\q x=false
  ·rw[List.filter_cons,List.filter_cons,hx.1,hx.2];simp;omega
  ·have h6:=Jq l h3 (by
    obtain ⟨i,hi,hpi,hqi⟩:=h2;rcases List.mem_cons.1 hi with rfl|hi
    ·exact absurd ⟨hpi,hqi⟩ hx
    ·exact ⟨i,hi,hpi,hqi⟩)
   have b:=h1 x (by simp);rw[List.filter_cons,List.filter_cons];cases hq:q x
   ·cases hp:p x
    ·simp;omega
    ·exact absurd ⟨hp,hq⟩ hx
   ·rw[b hq];simp;omega
section
variable {P:Program}{ops:Array Oper}{Q:Exit->Act->World->Prop}
def left (ops:Array Oper)(l:Array Bool):Nat:=((List.range ops.size).filter λj=>!l.getD j true).length
theorem FM {l:Array Bool}{i:Nat}(hi:i<ops.size)(h:l.getD i true=false):left ops (l.setIfInBounds i true)<left ops l:=by
 have hlt:i<l.size:=by
  rcases Nat.lt_or_ge i l.size with h'|h'
  ·exact h'
  ·rw[Array.getD_eq_getD_getElem?,Array.getElem?_eq_none h']at h;cases h
 refine Jq _ (λx _ hx=>?_) ⟨i,List.mem_range.2 hi,by simp[h],?_⟩
 ·by_cases e:i=x
  ·subst e;simp[h]
  ·simpa[Array.getD_eq_getD_getElem?,Array.getElem?_setIfInBounds_ne e] using hx
 ·simp[Array.getD_eq_getD_getElem?,hlt]
theorem Ls (Inv:(Nat->Bool)->Act->World->Prop)(hs: ∀L i o a w,ops[i]?=some o->L i=false->(∀e∈o.after,Region.binds .any e=true->L e.on=true)->Inv L a w->wpOp P ops Q i (λa' w'=>Inv (λj=>decide (j=i) || L j) a' w') a w)(hend: ∀L a w,(∀j,j<ops.size->L j=true)->Inv L a w->Q .normal a w)(hac: ∀i o,ops[i]?=some o-> ∀e∈o.after,Region.binds .any e=true->e.on<i):
  ∀(fuel:Nat) (l:Array Bool) (a:Act) (w:World),l.size=ops.size->left ops l<=fuel->Inv (λj=>l.getD j false) a w->wpAny P .any ops Q fuel l a w:=by
 have hall: ∀l:Array Bool,l.size=ops.size->Region.ready .any ops l=[]-> ∀j,j<ops.size->l.getD j false=true:=λl hl hr j=>by
  induction j using Nat.strongRecOn with
  | _ j ih=>
   intro hj;cases hb:l.getD j false
   ·have hlj:j<l.size:=by omega
    have hb2:l.getD j true=false:=by
     rw[Array.getD_eq_getD_getElem?,Array.getElem?_eq_getElem hlj]at hb⊢;exact hb
    have hm:j∈Region.ready .any ops l:=mem_ready.2 ⟨hb2,ops[j],Array.getElem?_eq_getElem hj,λe he h=>by
     have hlt:=hac j _ (Array.getElem?_eq_getElem hj) e he h;exact ih e.on hlt (by omega)⟩
    rw[hr]at hm;cases hm
   ·rfl
 intro fuel
 induction fuel with
 |zero=>
  intro l a w hl h0 hI;have hr:Region.ready .any ops l=[]:=List.eq_nil_iff_forall_not_mem.2 λi hi=>by
   obtain ⟨h1,o,ho,_⟩:=mem_ready.1 hi;have hlt:i<ops.size:=by
    rcases Nat.lt_or_ge i ops.size with h'|h'
    ·exact h'
    ·rw[Array.getElem?_eq_none h']at ho;cases ho
   have:=FM (ops:=ops) hlt h1;omega
  exact ⟨hr,hend _ a w (hall l hl hr) hI⟩
 |succ fuel ih=>
  intro l a w hl h0 hI;refine ⟨λhr=>hend _ a w (hall l hl hr) hI,λi hi=>?_⟩;obtain ⟨h1,o,ho,h2⟩:=mem_ready.1 hi;have hlt:i<ops.size:=by
   rcases Nat.lt_or_ge i ops.size with h'|h'
   ·exact h'
   ·rw[Array.getElem?_eq_none h']at ho;cases ho
  have hil:i<l.size:=by omega
  have h3:l.getD i false=false:=by
   rw[Array.getD_eq_getD_getElem?,Array.getElem?_eq_getElem hil]at h1⊢;exact h1
  refine wpOp_mono (λa' w' h4=>ih (l.setIfInBounds i true) a' w' (by simpa using hl) (by have:=FM (ops:=ops) hlt h1;omega) ?_) (hs _ i o a w ho h3 h2 hI);have e:(λj=>(l.setIfInBounds i true).getD j false)=λj=>decide (j=i) || l.getD j false:=by
   funext j
   by_cases q:i=j
   ·subst q;simp[Array.getD_eq_getD_getElem?,hil]
   ·have q2:decide (j=i)=false:=by simpa using λh:j=i=>q h.symm
    simp[Array.getD_eq_getD_getElem?,Array.getElem?_setIfInBounds_ne q,q2]
  rw[e];exact h4
theorem BQ {id:Nat}{a:Act}{w:World}(hm:P.follows .mixedOrders=true)(Inv:(Nat->Bool)->Act->World->Prop)(h0:Inv (λ_=>false) a w.drew)(hac: ∀i o,ops[i]?=some o-> ∀e∈o.after,Region.binds .any e=true->e.on<i)(hs: ∀L i o a w,ops[i]?=some o->L i=false->(∀e∈o.after,Region.binds .any e=true->L e.on=true)->Inv L a w->wpOp P ops Q i (λa' w'=>Inv (λj=>decide (j=i) || L j) a' w') a w)(hend: ∀L a w,(∀j,j<ops.size->L j=true)->Inv L a w->Q .normal a w):(Code.region id ops true).wp P Q a w:=by
 refine wp_region_any hm (Ls Inv hs hend hac ops.size _ a _ (by simp) ?_ ?_)
 ·refine Nat.le_trans (List.length_filter_le _ _) (by simp)
 ·have e:(λj=>(Array.replicate ops.size false).getD j false)=λ_=>false:=by
   funext j
   rw[Array.getD_eq_getD_getElem?];by_cases h:j<ops.size
   ·simp[h]
   ·simp[h]
  rw[e];exact h0
def M3 (ops:Array Oper)(deps:Nat->List Nat):Bool:=(List.range ops.size).all λi=>match ops[i]? with
 |some o=>(o.after.all λe=>!Region.binds .any e || decide (e.on<i))&&(deps i).all λd=>o.after.any λe=>Region.binds .any e&&e.on==d
 |none=>true
theorem rX {id:Nat}{a:Act}{w:World}(hm:P.follows .mixedOrders=true)(deps:Nat->List Nat)(he:M3 ops deps=true)(Inv:(Nat->Bool)->Act->World->Prop)(h0:Inv (λ_=>false) a w.drew)(hs: ∀L i a w,i<ops.size->L i=false->(∀d∈deps i,L d=true)->Inv L a w->wpOp P ops Q i (λa' w'=>Inv (λj=>decide (j=i) || L j) a' w') a w)(hend: ∀L a w,(∀j,j<ops.size->L j=true)->Inv L a w->Q .normal a w):(Code.region id ops true).wp P Q a w:=by
 have hE: ∀i o,ops[i]?=some o->i<ops.size/\(∀e∈o.after,Region.binds .any e=true->e.on<i)/\ ∀d∈deps i,∃e∈o.after,Region.binds .any e=true/\e.on=d:=λi o ho=>by
  have hlt:i<ops.size:=by
   rcases Nat.lt_or_ge i ops.size with h'|h'
   ·exact h'
   ·rw[Array.getElem?_eq_none h']at ho;cases ho
  have h1:=List.all_eq_true.1 he i (List.mem_range.2 hlt);rw[ho]at h1;simp only[Bool.and_eq_true]at h1;refine ⟨hlt,λe hm hb=>?_,λd hd=>?_⟩
  ·have h2:=Array.all_eq_true_iff_forall_mem.1 h1.1 e hm;simpa[hb] using h2
  ·have h2:=List.all_eq_true.1 h1.2 d hd;obtain ⟨e,hm,h3⟩:=Array.any_eq_true'.1 h2;rw[Bool.and_eq_true,beq_iff_eq]at h3;exact ⟨e,hm,h3⟩
 refine BQ hm Inv h0 (λi o ho=>(hE i o ho).2.1) (λL i o a w ho hL h2 hI=>hs L i a w (hE i o ho).1 hL (λd hd=>?_) hI) hend;obtain ⟨e,h3,h4,rfl⟩:=(hE i o ho).2.2 d hd;exact h2 e h3 h4
end
section
variable {P:Program}{ops:Array Oper}{Q:Exit->Act->World->Prop}
def UR (lk:Nat->Nat)(U:Nat->List Nat)(F:Nat->Value->Value->World->Prop)(L:Nat->Bool)(vs:List Value)(V:World):Prop:=
 ∀j,L j=true->L (lk j)=true/\((∀u∈U j,L u=false)->F j (vs.getD j (.bool false)) (vs.getD (lk j) (.bool false)) V)
def UQ (R:World->World->Prop)(fr:List Value->Act)(G:(Nat->Bool)->World->Prop)(lk:Nat->Nat)(U:Nat->List Nat)(F:Nat->Value->Value->World->Prop)(L:Nat->Bool)(vs:List Value)(V:World)(i:Nat)(a':Act)(w':World):Prop:=
 ∃v,a'=fr (vs.set i v)/\F i v ((vs.set i v).getD (lk i) (.bool false)) w'/\G (λj=>decide (j=i) || L j) w'/\(R V w'\/ ∀j,j≠i->L j=true->(∀u∈U j,u≠i/\L u=false)->F j (vs.getD j (.bool false)) (vs.getD (lk j) (.bool false)) V->F j (vs.getD j (.bool false)) (vs.getD (lk j) (.bool false)) w')
theorem cZ {id:Nat}{a:Act}{w:World}(hm:P.follows .mixedOrders=true)(deps:Nat->List Nat)(he:M3 ops deps=true)(R:World->World->Prop)(fr:List Value->Act)(N:Nat)(hN:ops.size<=N)(G:(Nat->Bool)->World->Prop)(lk:Nat->Nat)(U:Nat->List Nat)(F:Nat->Value->Value->World->Prop)(I:Nat->Value->Prop)(hlk: ∀j,lk j=j\/lk j∈deps j)(hst: ∀j v u V V',R V V'->F j v u V->F j v u V')(vJ:List Value)(hl:vJ.length=N)(ha:a=fr vJ)(hi0: ∀j,I j (vJ.getD j (.bool false)))(h0:G (λ_=>false) w.drew)(hs: ∀L i vs V,i<ops.size->vs.length=N->L i=false->(∀d∈deps i,L d=true)->G L V->UR lk U F L vs V->(∀j,L j=false->I j (vs.getD j (.bool false)))->wpOp P ops Q i (UQ R fr G lk U F L vs V i) (fr vs) V)(hend: ∀L vs V,(∀j,j<ops.size->L j=true)->vs.length=N->G L V->(∀j,j<ops.size->U j=[]->F j (vs.getD j (.bool false)) (vs.getD (lk j) (.bool false)) V)->Q .normal (fr vs) V):(Code.region id ops true).wp P Q a w:=by
 have hset: ∀(vs:List Value) (i j:Nat) (v:Value),j≠i->(vs.set i v).getD j (.bool false)=vs.getD j (.bool false):=λvs i j v e=>by
  rw[List.getD_eq_getElem?_getD,List.getElem?_set_ne (λq=>e q.symm),List.getD_eq_getElem?_getD]
 refine rX hm deps he (λL a V=> ∃vs,a=fr vs/\vs.length=N/\G L V/\UR lk U F L vs V/\ ∀j,L j=false->I j (vs.getD j (.bool false))) ⟨vJ,ha,hl,h0,(λj h=>by cases h),λj _=>hi0 j⟩ ?_ ?_
 ·rintro L i a V hi hL hd ⟨vs,rfl,hl,hG,hF,hI⟩;refine wpOp_mono ?_ (hs L i vs V hi hl hL hd hG hF hI);rintro a' w' ⟨v,rfl,h1,h2,h3⟩;refine ⟨vs.set i v,rfl,by simpa using hl,h2,λj hj=>?_,λj hj=>?_⟩;rotate_left
  ·have hj:j≠i/\L j=false:=by simpa using hj
   rw[hset vs i j v hj.1];exact hI j hj.2
  by_cases e:j=i
  ·subst e;refine ⟨?_,λhu=>?_⟩
   ·rcases hlk j with h|h
    ·rw[h];simp
    ·simp[hd _ h]
   ·rw[show (vs.set j v).getD j (.bool false)=v from by rw[List.getD_eq_getElem?_getD,List.getElem?_set_self (by omega)];rfl];exact h1
  ·have hj2:L j=true:=by simpa[e] using hj
   obtain ⟨hk,hf⟩:=hF j hj2;have hne:lk j≠i:=λq=>by rw[q,hL]at hk;cases hk
   refine ⟨by simp[hk],λhu=>?_⟩;have hu2: ∀u∈U j,u≠i/\L u=false:=λu hm=>by
    have h:=hu u hm;simp only[Bool.or_eq_false_iff,decide_eq_false_iff_not]at h;exact h
   rw[hset vs i j v e,hset vs i (lk j) v hne];have hf:=hf λu hm=>(hu2 u hm).2;rcases h3 with h3|h3
   ·exact hst j _ _ _ _ h3 hf
   ·exact h3 j e hj2 hu2 hf
 ·rintro L a V hL ⟨vs,rfl,hl,hG,hF,_⟩;exact hend L vs V hL hl hG λj hj hu=>(hF j (hL j hj)).2 λu hm=>by rw[hu]at hm;cases hm
theorem af {vs:List Value}{n:Nat}(h:vs.length=n+1): ∃v l,vs=v :: l/\l.length=n:=by
 match vs,h with
 |v :: l,h=>exact ⟨v,l,rfl,by simpa using h⟩
theorem fo {vs:List Value}(h:vs.length=0):vs=[]:=List.eq_nil_of_length_eq_zero h
end
end Go.Proofs.YtopjjlmfilgngaaGreatDoor
