/-
  Plain law: a table of the world is a table: its counts are positive and small, its rows fit.
-/
import Derived.Test.YtopjjlmfilgngaaGreatDoorGao
import Derived.Test.YtopjjlmfilgngaaGreatDoorGap
namespace Go.Proofs.YtopjjlmfilgngaaGreatDoor
set_option linter.unusedSimpArgs false
set_option linter.unusedVariables false
theorem FR {cols:List Col}{xs:List Ent}(h: ∀x∈xs,DJ cols x)(r:List Val):0<=cnt xs r/\cnt xs r<=2*(xs.length:Int):=by
 induction xs with
 |nil=>simp[cnt]
 |cons x l ih=>
  have h1:=(h x (by simp)).2.2;have h2:=ih λy hy=>h y (by simp[hy]);rw[cnt,List.length_cons]
  split <;> omega
theorem sG.tab {cols:List Col}(hl:cols.length<=12){zs:List Ent}(h:sG cols zs):(∀x∈zs,0<x.count/\x.count<=2000)/\dz cols zs=0:=by
 obtain ⟨hb,hr,_⟩:=h.bag hl;obtain ⟨xs,q,h1,h2,h3⟩:=h;have hn:=wm h3;rw[wh λx hx=>qW hl (h1 x hx)]at hn;have hc: ∀x∈zs,0<x.count/\x.count<=2000:=by
  intro x hx;have hz:x.count≠0:=((dM.1 hb).2.1 x hx).2;rcases Bd xs with e|⟨_,e⟩
  ·have c:=Bc e x.row;rw[hn]at c;have d:=(jN hb).mem hx;have b:=FR h1 x.row;have c':cnt zs x.row=cnt xs x.row:=c;omega
  ·rw[hn]at e;have e':zs=[]:=e;subst e';cases hx
 refine ⟨hc,?_⟩;have ht:bZ zs=true:=by
  rw[bZ,hb];simp only[BEq.rfl,Bool.true_and,List.all_eq_true,decide_eq_true_eq];exact λx hx=>by have:=hc x hx;omega
 rw[dz,if_neg (by simp[hb]),ht,if_neg (by simp)];exact mU.2 λj x hx=>hr x (List.mem_iff_getElem?.2 ⟨j,hx⟩)
end Go.Proofs.YtopjjlmfilgngaaGreatDoor
