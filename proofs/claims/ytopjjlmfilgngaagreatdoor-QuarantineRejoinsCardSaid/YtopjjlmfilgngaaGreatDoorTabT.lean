/-
  Plain law: a table of the world is a table: its counts are positive and small, its rows fit.
-/
import Derived.Test.YtopjjlmfilgngaaGreatDoorGax
import Derived.Test.YtopjjlmfilgngaaGreatDoorGao
namespace Go.Proofs.YtopjjlmfilgngaaGreatDoor
set_option linter.unusedSimpArgs false
set_option linter.unusedVariables false
theorem La {cols:List Col}{xs:List Ent}(h: ∀x∈xs,Ah cols x)(r:List Val):0<=cnt xs r/\cnt xs r<=2*(xs.length:Int):=by
 induction xs with
 |nil=>simp[cnt]
 |cons x l ih=>
  have h1:=(h x (by simp)).2.2;have h2:=ih λy hy=>h y (by simp[hy]);rw[cnt,List.length_cons]
  split <;> omega
theorem nH.tab {cols:List Col}(hl:cols.length<=12){zs:List Ent}(h:nH cols zs):(∀x∈zs,0<x.count/\x.count<=2000)/\aQ cols zs=0:=by
 obtain ⟨hb,hr,_⟩:=h.bag hl;obtain ⟨xs,q,h1,h2,h3⟩:=h;have hn:=uh h3;rw[ug λx hx=>uD hl (h1 x hx)]at hn;have hc: ∀x∈zs,0<x.count/\x.count<=2000:=by
  intro x hx;have hz:x.count≠0:=((dM.1 hb).2.1 x hx).2;rcases yh xs with e|⟨_,e⟩
  ·have c:=sD e x.row;rw[hn]at c;have d:=(dN hb).mem hx;have b:=La h1 x.row;have c':cnt zs x.row=cnt xs x.row:=c;omega
  ·rw[hn]at e;have e':zs=[]:=e;subst e';cases hx
 refine ⟨hc,?_⟩;have ht:cO zs=true:=by
  rw[cO,hb];simp only[BEq.rfl,Bool.true_and,List.all_eq_true,decide_eq_true_eq];exact λx hx=>by have:=hc x hx;omega
 rw[aQ,if_neg (by simp[hb]),ht,if_neg (by simp)];exact mO.2 λj x hx=>hr x (List.mem_iff_getElem?.2 ⟨j,hx⟩)
end Go.Proofs.YtopjjlmfilgngaaGreatDoor
