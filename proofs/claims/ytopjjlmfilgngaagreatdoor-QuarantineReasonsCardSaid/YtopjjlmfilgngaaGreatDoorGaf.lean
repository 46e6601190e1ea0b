/-
  A region that draws its order, by an invariant over what has come up: each operation is met once, whatever came up ahead of it. No program is in sight. A region that draws its order, by what each operation leaves in its slot: facts that stand as long as the world changes only by R, until some other operation has come up. No program is in sight.
-/
import Derived.Test.YtopjjlmfilgngaaGreatDoorGac
namespace Go.Proofs.YtopjjlmfilgngaaGreatDoor
open Go.RowKit
set_option linter.unusedSimpArgs false
set_option linter.unusedVariables false
theorem Ht {p q:Nat->Bool}: ∀(l:List Nat),(∀x∈l,q x=true->p x=true)->(∃i∈l,p i=true/\q i=false)->(l.filter q).length<(l.filter p).length
 | [],_,h=>by obtain⟨i,hi,_⟩:=h;cases hi
 |x::l,h1,h2=>by
  have e: ∀y∈l,q y=true->p y=true:=λy n=>h1 y (by simp[n]);have k: ∀m:List Nat,(∀y∈m,q y=true->p y=true)->(m.filter q).length<=(m.filter p).length:=λm=>by
   induction m with
   |nil=>simp
   |cons y m r=>
    intro h;have a:=r λz o=>h z (by simp[o]);have b:=h y (by simp);rw[List.filter_cons,List.filter_cons];cases c:q y
    ·cases f:p y<;>simp<;>omega
    ·rw[b c];simp;omega
  have s:=k l e;by_cases d:p x=true/\q x=false
  ·rw[List.filter_cons,List.filter_cons,d.1,d.2];simp;omega
  ·have t:=Ht l e (by
    obtain⟨i,hi,g,j⟩:=h2;rcases List.mem_cons.1 hi with rfl|hi
    ·exact absurd ⟨g,j⟩ d
    ·exact⟨i,hi,g,j⟩)
   have b:=h1 x (by simp);rw[List.filter_cons,List.filter_cons];cases c:q x
   ·cases f:p x
    ·simp;omega
    ·exact absurd ⟨f,c⟩ d
   ·rw[b c];simp;omega
section
variable {P:Program}{ops:Array Oper}{Q:Exit->Act->World->Prop}
def left (ops:Array Oper)(l:Array Bool):Nat:=((List.range ops.size).filter λj=>!l.getD j true).length
theorem EA {l:Array Bool}{i:Nat}(hi:i<ops.size)(h:l.getD i true=false):left ops (l.setIfInBounds i true)<left ops l:=by
 have b:i<l.size:=by
  rcases Nat.lt_or_ge i l.size with a|a
  ·exact a
  ·rw[Array.getD_eq_getD_getElem?,Array.getElem?_eq_none a]at h;cases h
 refine Ht _ (λx _ c=>?_) ⟨i,List.mem_range.2 hi,by simp[h],?_⟩
 ·by_cases e:i=x
  ·subst e;simp[h]
  ·simpa[Array.getD_eq_getD_getElem?,Array.getElem?_setIfInBounds_ne e] using c
 ·simp[Array.getD_eq_getD_getElem?,b]
theorem JO (Inv:(Nat->Bool)->Act->World->Prop)(hs: ∀L i o a w,ops[i]?=some o->L i=false->(∀e∈o.after,Region.binds .any e=true->L e.on=true)->Inv L a w->wpOp P ops Q i (λn w'=>Inv (λj=>decide (j=i) || L j) n w') a w)(s: ∀L a w,(∀j,j<ops.size->L j=true)->Inv L a w->Q .normal a w)(B: ∀i o,ops[i]?=some o-> ∀e∈o.after,Region.binds .any e=true->e.on<i):
  ∀(fuel:Nat) (l:Array Bool) (a:Act) (w:World),l.size=ops.size->left ops l<=fuel->Inv (λj=>l.getD j false) a w->wpAny P .any ops Q fuel l a w:=by
 have r: ∀l:Array Bool,l.size=ops.size->Region.ready .any ops l=[]-> ∀j,j<ops.size->l.getD j false=true:=λl g d j=>by
  induction j using Nat.strongRecOn with
  | _ j p=>
   intro u;cases hb:l.getD j false
   ·have E:j<l.size:=by omega
    have C:l.getD j true=false:=by
     rw[Array.getD_eq_getD_getElem?,Array.getElem?_eq_getElem E]at hb⊢;exact hb
    have v:j∈Region.ready .any ops l:=mem_ready.2 ⟨C,ops[j],Array.getElem?_eq_getElem u,λe D h=>by
     have k:=B j _ (Array.getElem?_eq_getElem u) e D h;exact p e.on k (by omega)⟩
    rw[d]at v;cases v
   ·rfl
 intro fuel
 induction fuel with
 |zero=>
  intro l a w g x m;have d:Region.ready .any ops l=[]:=List.eq_nil_iff_forall_not_mem.2 λi hi=>by
   obtain⟨f,o,c,_⟩:=mem_ready.1 hi;have k:i<ops.size:=by
    rcases Nat.lt_or_ge i ops.size with b|b
    ·exact b
    ·rw[Array.getElem?_eq_none b]at c;cases c
   have:=EA (ops:=ops) k f;omega
  exact⟨d,s _ a w (r l g d) m⟩
 |succ fuel p=>
  intro l a w g x m;refine⟨λd=>s _ a w (r l g d) m,λi hi=>?_⟩;obtain⟨f,o,c,y⟩:=mem_ready.1 hi;have k:i<ops.size:=by
   rcases Nat.lt_or_ge i ops.size with b|b
   ·exact b
   ·rw[Array.getElem?_eq_none b]at c;cases c
  have t:i<l.size:=by omega
  have z:l.getD i false=false:=by
   rw[Array.getD_eq_getD_getElem?,Array.getElem?_eq_getElem t]at f⊢;exact f
  refine wpOp_mono (λn w' A=>p (l.setIfInBounds i true) n w' (by simpa using g) (by have:=EA (ops:=ops) k f;omega) ?_) (hs _ i o a w c z y m);have e:(λj=>(l.setIfInBounds i true).getD j false)=λj=>decide (j=i) || l.getD j false:=by
   funext j
   by_cases q:i=j
   ·subst q;simp[Array.getD_eq_getD_getElem?,t]
   ·have F:decide (j=i)=false:=by simpa using λh:j=i=>q h.symm
    simp[Array.getD_eq_getD_getElem?,Array.getElem?_setIfInBounds_ne q,F]
  rw[e];exact A
theorem Bo {id:Nat}{a:Act}{w:World}(g:P.follows .mixedOrders=true)(Inv:(Nat->Bool)->Act->World->Prop)(c:Inv (λ_=>false) a w.drew)(d: ∀i o,ops[i]?=some o-> ∀e∈o.after,Region.binds .any e=true->e.on<i)(hs: ∀L i o a w,ops[i]?=some o->L i=false->(∀e∈o.after,Region.binds .any e=true->L e.on=true)->Inv L a w->wpOp P ops Q i (λb w'=>Inv (λj=>decide (j=i) || L j) b w') a w)(f: ∀L a w,(∀j,j<ops.size->L j=true)->Inv L a w->Q .normal a w):(Code.region id ops true).wp P Q a w:=by
 refine wp_region_any g (JO Inv hs f d ops.size _ a _ (by simp) ?_ ?_)
 ·refine Nat.le_trans (List.length_filter_le _ _) (by simp)
 ·have e:(λj=>(Array.replicate ops.size false).getD j false)=λ_=>false:=by
   funext j
   rw[Array.getD_eq_getD_getElem?];by_cases h:j<ops.size
   ·simp[h]
   ·simp[h]
  rw[e];exact c
def Kw (ops:Array Oper)(a:Nat->List Nat):Bool:=(List.range ops.size).all λi=>match ops[i]? with
 |some o=>(o.after.all λe=>!Region.binds .any e || decide (e.on<i))&&(a i).all λd=>o.after.any λe=>Region.binds .any e&&e.on==d
 |none=>true
theorem uy {id:Nat}{a:Act}{w:World}(f:P.follows .mixedOrders=true)(k:Nat->List Nat)(u:Kw ops k=true)(Inv:(Nat->Bool)->Act->World->Prop)(q:Inv (λ_=>false) a w.drew)(hs: ∀L i a w,i<ops.size->L i=false->(∀d∈k i,L d=true)->Inv L a w->wpOp P ops Q i (λp w'=>Inv (λj=>decide (j=i) || L j) p w') a w)(v: ∀L a w,(∀j,j<ops.size->L j=true)->Inv L a w->Q .normal a w):(Code.region id ops true).wp P Q a w:=by
 have m: ∀i o,ops[i]?=some o->i<ops.size/\(∀e∈o.after,Region.binds .any e=true->e.on<i)/\ ∀d∈k i,∃e∈o.after,Region.binds .any e=true/\e.on=d:=λi o b=>by
  have n:i<ops.size:=by
   rcases Nat.lt_or_ge i ops.size with l|l
   ·exact l
   ·rw[Array.getElem?_eq_none l]at b;cases b
  have g:=List.all_eq_true.1 u i (List.mem_range.2 n);rw[b]at g;simp only[Bool.and_eq_true]at g;refine⟨n,λe f hb=>?_,λd hd=>?_⟩
  ·have c:=Array.all_eq_true_iff_forall_mem.1 g.1 e f;simpa[hb] using c
  ·have c:=List.all_eq_true.1 g.2 d hd;obtain⟨e,f,h⟩:=Array.any_eq_true'.1 c;rw[Bool.and_eq_true,beq_iff_eq]at h;exact⟨e,f,h⟩
 refine Bo f Inv q (λi o b=>(m i o b).2.1) (λL i o a w b t c s=>hs L i a w (m i o b).1 t (λd hd=>?_) s) v;obtain⟨e,h,r,rfl⟩:=(m i o b).2.2 d hd;exact c e h r
end
section
variable {P:Program}{b:Array Oper}{Q:Exit->Act->World->Prop}
def Oa (a:Nat->Nat)(U:Nat->List Nat)(F:Nat->Value->Value->World->Prop)(L:Nat->Bool)(vs:List Value)(V:World):Prop:=
 ∀j,L j=true->L (a j)=true/\((∀u∈U j,L u=false)->F j (vs.getD j (.bool false)) (vs.getD (a j) (.bool false)) V)
def Pg (R:World->World->Prop)(d:List Value->Act)(G:(Nat->Bool)->World->Prop)(a:Nat->Nat)(U:Nat->List Nat)(F:Nat->Value->Value->World->Prop)(L:Nat->Bool)(vs:List Value)(V:World)(i:Nat)(c:Act)(w':World):Prop:=
 ∃v,c=d (vs.set i v)/\F i v ((vs.set i v).getD (a i) (.bool false)) w'/\G (λj=>decide (j=i) || L j) w'/\(R V w'\/ ∀j,j≠i->L j=true->(∀u∈U j,u≠i/\L u=false)->F j (vs.getD j (.bool false)) (vs.getD (a j) (.bool false)) V->F j (vs.getD j (.bool false)) (vs.getD (a j) (.bool false)) w')
theorem iW {id:Nat}{a:Act}{w:World}(f:P.follows .mixedOrders=true)(o:Nat->List Nat)(M:Kw b o=true)(R:World->World->Prop)(l:List Value->Act)(N:Nat)(Z:b.size<=N)(G:(Nat->Bool)->World->Prop)(g:Nat->Nat)(U:Nat->List Nat)(F:Nat->Value->Value->World->Prop)(I:Nat->Value->Prop)(T: ∀j,g j=j\/g j∈o j)(X: ∀j v u V A,R V A->F j v u V->F j v u A)(t:List Value)(k:t.length=N)(K:a=l t)(S: ∀j,I j (t.getD j (.bool false)))(E:G (λ_=>false) w.drew)(hs: ∀L i vs V,i<b.size->vs.length=N->L i=false->(∀d∈o i,L d=true)->G L V->Oa g U F L vs V->(∀j,L j=false->I j (vs.getD j (.bool false)))->wpOp P b Q i (Pg R l G g U F L vs V i) (l vs) V)(O: ∀L vs V,(∀j,j<b.size->L j=true)->vs.length=N->G L V->(∀j,j<b.size->U j=[]->F j (vs.getD j (.bool false)) (vs.getD (g j) (.bool false)) V)->Q .normal (l vs) V):(Code.region id b true).wp P Q a w:=by
 have z: ∀(vs:List Value) (i j:Nat) (v:Value),j≠i->(vs.set i v).getD j (.bool false)=vs.getD j (.bool false):=λvs i j v e=>by
  rw[List.getD_eq_getElem?_getD,List.getElem?_set_ne (λq=>e q.symm),List.getD_eq_getElem?_getD]
 refine uy f o M (λL a V=> ∃vs,a=l vs/\vs.length=N/\G L V/\Oa g U F L vs V/\ ∀j,L j=false->I j (vs.getD j (.bool false))) ⟨t,K,k,E,(λj h=>by cases h),λj _=>S j⟩ ?_ ?_
 ·rintro L i a V hi n hd ⟨vs,rfl,k,x,p,B⟩;refine wpOp_mono ?_ (hs L i vs V hi k n hd x p B);rintro Y w' ⟨v,rfl,H,J,m⟩;refine⟨vs.set i v,rfl,by simpa using k,J,λj c=>?_,λj c=>?_⟩;rotate_left
  ·have c:j≠i/\L j=false:=by simpa using c
   rw[z vs i j v c.1];exact B j c.2
  by_cases e:j=i
  ·subst e;refine⟨?_,λs=>?_⟩
   ·rcases T j with h|h
    ·rw[h];simp
    ·simp[hd _ h]
   ·rw[show(vs.set j v).getD j (.bool false)=v from by rw[List.getD_eq_getElem?_getD,List.getElem?_set_self (by omega)];rfl];exact H
  ·have C:L j=true:=by simpa[e] using c
   obtain⟨y,r⟩:=p j C;have W:g j≠i:=λq=>by rw[q,n]at y;cases y
   refine⟨by simp[y],λs=>?_⟩;have D: ∀u∈U j,u≠i/\L u=false:=λu f=>by
    have h:=s u f;simp only[Bool.or_eq_false_iff,decide_eq_false_iff_not]at h;exact h
   rw[z vs i j v e,z vs i (g j) v W];have r:=r λu f=>(D u f).2;rcases m with m|m
   ·exact X j _ _ _ _ m r
   ·exact m j e C D r
 ·rintro L a V n ⟨vs,rfl,k,x,p,_⟩;exact O L vs V n k x λj c s=>(p j (n j c)).2 λu f=>by rw[s]at f;cases f
theorem fK {i:Nat}{o:Oper}{K:Act->World->Prop}{a:Act}{w:World}(e:b[i]?=some o)(h: ∀c:Act->World->Prop,Hl (∀a w,K a w->c a w)->if Region.wanted o (yielded b a.tmps)=true then Oper.wp P o a w c Q else c (a.put o.dst undef) w):wpOp P b Q i K a w:=wpOp_step e λc d=>h c (Hm d)
theorem fT {c:Nat->Nat}{U:Nat->List Nat}{F:Nat->Value->Value->World->Prop}{L:Nat->Bool}{vs:List Value}{V:World}{a:List Nat}(f:Hl (Oa c U F L vs V))(e:Hl (∀d,d∈a->L d=true))(j:Nat)(g:a.contains j=true)(i:U j=[]):F j (vs.getD j (.bool false)) (vs.getD (c j) (.bool false)) V:=
 (f.o j (e.o j (by simpa using g))).2 λu h=>by rw[i]at h;cases h
theorem fJ {vs:List Value}{n:Nat}(h:vs.length=n+1): ∃v l,vs=v::l/\l.length=n:=by
 match vs,h with
 |v::l,h=>exact⟨v,l,rfl,by simpa using h⟩
theorem jR {vs:List Value}(h:vs.length=0):vs=[]:=List.eq_nil_of_length_eq_zero h
end
end Go.Proofs.YtopjjlmfilgngaaGreatDoor
