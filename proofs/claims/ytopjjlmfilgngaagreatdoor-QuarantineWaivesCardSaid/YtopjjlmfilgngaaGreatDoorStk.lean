/-
  A stack that a call keeps in a slice of its own: what it reads as, its prefixes, an append to a prefix. No program is in sight.
-/
import Derived.ArgAppend
import Derived.Test.YtopjjlmfilgngaaGreatDoorGae
namespace Go.Proofs.YtopjjlmfilgngaaGreatDoor
open Go.RowKit
set_option linter.unusedSimpArgs false
set_option linter.unusedVariables false
class Flat (α:Type) extends Rep α where
 cs:α->List Value
 ok:α->Prop
 rd_mk: ∀(w:World) (S:Nat->Prop) (a:α),ok a->rd w S (cs a) a
 cs_len: ∀a,(cs a).length=size
 cs_one: ∀a,∀u∈cs a,u.oneCell'=true
 pos:0<size
instance:Flat Int where
 cs n:=[.int .i64 n]
 ok:=eZ
 rd_mk _ _ _ h:=⟨rfl,h⟩
 cs_len _:=rfl
 cs_one _ u hu:=by simp at hu;subst hu;rfl
 pos:=by decide
instance:Flat Val where
 cs v:=v.cells
 ok v:=v.ok
 rd_mk _ _ _ h:=⟨rfl,h⟩
 cs_len _:=rfl
 cs_one v u hu:=by simp[Val.cells]at hu;rcases hu with rfl|rfl|rfl <;> rfl
 pos:=by decide
section
variable {α:Type}[Flat α]
theorem pX (w:World)(S:Nat->Prop): ∀{xs:List α},(∀x∈xs,Flat.ok x)->Cells w S (xs.flatMap Flat.cs) xs
 | [],_=>rfl
 |x :: xs,h=>⟨Flat.cs x,xs.flatMap Flat.cs,by simp,Flat.rd_mk w S x (h x (by simp)),pX w S λy hy=>h y (by simp[hy])⟩
theorem lD (xs:List α):(xs.flatMap Flat.cs).length=xs.length*Rep.size α:=by
 induction xs with
 |nil=>simp
 |cons x xs ih=>rw[List.flatMap_cons,List.length_append,ih,Flat.cs_len,List.length_cons,Nat.add_mul];omega
theorem Kg (xs:List α)(k:Nat):(xs.take k).flatMap Flat.cs=(xs.flatMap Flat.cs).take (k*Rep.size α):=by
 induction xs generalizing k with
 |nil=>simp
 |cons x xs ih=>
  cases k with
  |zero=>simp
  |succ k=>
   have hl:(Flat.cs x).length=Rep.size α:=Flat.cs_len x;rw[List.take_succ_cons,List.flatMap_cons,List.flatMap_cons,ih,List.take_append,hl,List.take_of_length_le (l:=Flat.cs x) (by rw[hl,Nat.add_mul];omega),
    show (k+1)*Rep.size α-Rep.size α=k*Rep.size α from by rw[Nat.add_mul];omega]
theorem Ea {w:World}{B B':Nat}{e:TypeId}{size:Nat}{v:Value}{n:Nat}{xs:List Value}(h:w.ownsRow B' e size v n xs)(hB:B<=B'):w.ownsRow B e size v n xs:=by
 refine ⟨h.1,?_⟩;rcases h.2 with h2|⟨g,cap,cur,rfl,hg,r⟩
 ·exact .inl h2
 ·exact .inr ⟨g,cap,cur,rfl,Nat.le_trans hB hg,r⟩
theorem vo {w w':World}{base:Nat}{e:TypeId}{size:Nat}{v:Value}{n:Nat}{xs:List Value}(h:w.ownsRow base e size v n xs)(hk: ∀g,v.ownBlock=some g->w'.heap[g]?=w.heap[g]?):w'.ownsRow base e size v n xs:=by
 refine ⟨h.1,?_⟩;rcases h.2 with h2|⟨g,cap,cur,rfl,hg,hh,r⟩
 ·exact .inl h2
 ·exact .inr ⟨g,cap,cur,rfl,hg,by rw[hk g rfl];exact hh,r⟩
theorem Sl.from_ {β:Type}[Rep β]{w:World}{S:Nat->Prop}{A:Option Addr}{n c k:Nat}{xs:List β}(h:Sl w S A n c xs)(hk:k<=n):
  Sl w S (if c=k then A else A.map (·.add (k*Rep.size β))) (n-k) (c-k) (xs.drop k):=by
 refine ⟨by rw[List.length_drop,h.1],by have:=h.2.1;omega,by have:=h.2.2.1;omega,λhA=>?_,λhn=>?_⟩
 ·by_cases hc:c=k
  ·omega
  ·rw[if_neg hc]at hA;have:=h.2.2.2.1 (by cases A with|none=>rfl|some a=>cases hA);omega
 ·obtain ⟨b,off,e,hb,hi⟩:=h.2.2.2.2 (by omega);have:=h.2.1;rw[if_neg (by omega),e];refine ⟨b,off+k*Rep.size β,by rw[Option.map_some,jw],hb,λi hi'=>?_⟩;rw[List.length_drop]at hi';have:=hi (k+i) (by omega);rw[List.getElem_drop,show off+k*Rep.size β+i*Rep.size β=off+(k+i)*Rep.size β from by rw[Nat.add_mul];omega];exact this
structure Stk (B:Nat) (w:World) (e:TypeId) (A:Option Addr) (c:Nat) (xs:List α):Prop where
 own:w.ownsRow B e (Rep.size α) (.slice A xs.length c) xs.length (xs.flatMap Flat.cs)
 ok: ∀x∈xs,Flat.ok x
theorem Stk.nil_ (B:Nat)(w:World)(e:TypeId):Stk (α:=α) B w e none 0 []:=⟨World.ownsRow_nil _ _ _ _,λ_ h=>by cases h⟩
section
variable {B:Nat}{w w':World}{e:TypeId}{A:Option Addr}{c k:Nat}{xs:List α}
theorem Stk.blk (h:Stk B w e A c xs): ∀g,(Value.slice A xs.length c).ownBlock=some g->g<w.heap.size/\B<=g:=by
 intro g hg;rcases h.own.2 with ⟨h2,_⟩|⟨g',cap,cur,hv,hB,hh,_⟩
 ·injection h2 with h2;subst h2;cases hg
 ·injection hv with hv;subst hv;injection hg with hg;subst hg;exact ⟨(Array.getElem?_eq_some_iff.1 hh).1,hB⟩
theorem Stk.keep (h:Stk B w e A c xs)(hk:Below w.heap.size w w'):Stk B w' e A c xs:=
 ⟨vo h.own λg hg=>hk.block g (h.blk g hg).1,h.ok⟩
theorem Stk.inn (h:Stk B w e A c xs):In w A xs.length c xs:=by
 obtain ⟨A',c',hv,hs,_⟩:=gP (S:=λk=>k<w.heap.size) (T:=λk=>k<w.heap.size) h.own (pX w _ h.ok) (λ_ hk=>hk) rfl (λg _ hg=>hg.lt);injection hv with h1 _ h3;subst h1 h3;exact hs
theorem Stk.from_ (h:Stk B w e A c xs)(hk:k<=xs.length):In w (if c=k then A else A.map (·.add (k*Rep.size α))) (xs.length-k) (c-k) (xs.drop k):=Sl.from_ h.inn hk
theorem Stk.take (h:Stk B w e A c xs)(hk:k<=xs.length):Stk B w e A c (xs.take k):=by
 refine ⟨⟨lD _,?_⟩,λx hx=>h.ok x (List.mem_of_mem_take hx)⟩;have hl:(xs.take k).length=k:=by rw[List.length_take];omega
 rw[hl];rcases h.own.2 with ⟨h2,h3⟩|⟨g,cap,cur,hv,hB,hh,h4,h5,h6,h7⟩
 ·injection h2 with h2 _ h2';subst h2 h2';exact .inl ⟨by rw[show k=0 by omega],by omega⟩
 ·injection hv with hv _ hc;subst hv hc;refine .inr ⟨g,c,cur,rfl,hB,hh,by omega,h5,h6,?_⟩;rw[Kg,<-h7,List.take_take]
  congr 1
  exact (Nat.min_eq_left (Nat.mul_le_mul_right _ hk)).symm
theorem Stk.cap (h:Stk B w e A c xs):xs.length<=c/\c<=9223372036854775807:=h.inn.cap
theorem Stk.none_ (h:Stk B w e A c xs)(hA:A=none):xs.length=0/\c=0:=by
 have:=h.inn.2.2.2.1 hA;have:=h.inn.2.1;omega
theorem Stk.addr (h:Stk B w e A c xs):A=none\/ ∃g,A=some ⟨g,0,none⟩:=by
 rcases h.own.2 with ⟨h2,_⟩|⟨g',cap,cur,hv,hB,hh,_⟩
 ·injection h2 with h2;exact .inl h2
 ·injection hv with hv;exact .inr ⟨g',hv⟩
def Jd (w:World)(b:Nat)(y:α):Prop:= ∀j u,(Flat.cs y)[j]?=some u->w.cell? ⟨b,j,none⟩=some u
theorem bH (w:World)(e:TypeId)(y:α)(arr:Array Value)(h:arr=(Flat.cs y).toArray):Jd (w.alloc (.cells arr e)) w.heap.size y:=by
 intro j u hu;subst h;rw[cell_of_row _ _ _ _ _ _ (heap_alloc_new w _)];simpa using hu
theorem nP {P:Program}(w:World){ops:Array Oper}{rest:List Oper}{o:Oper}{a:Act}{Q:Exit->Act->World->Prop}(hgd:o.guard=none)(s x:Operand)(t:TypeId)(ho:o.op=.call {callee:=.builtin .append,args:= #[s,x],argTypes:= #[t,t]})(B:Nat)(e:TypeId)(i:TypeInfo)(z:Value)(bytes:Nat)(ht:P.underlying t=some (.slice e))(hi:P.info? e=some i)(hz:i.zero=some z)(hsize:i.size=Rep.size α)(hby:i.bytes=bytes)(hzs:z.cells.size=Rep.size α)(RA:bytes<=256)(A:Option Addr)(c k:Nat)(xs:List α)(hown:Stk B w e A c xs)(hk:k<=xs.length)(hs:a.eval s=.slice A k c)(y:α)(hy:Flat.ok y)(b:Nat)(hx:a.eval x=.slice (some ⟨b,0,none⟩) 1 1)(hc:Jd w b y)(hm:k<=1048576)(hB:B<=w.heap.size)(h: ∀A' c' w',Stk B w' e A' c' (xs.take k++[y])->Below B w w'->wpList P ops Q rest (a.put o.dst (.slice A' (k+1) c')) w'):wpList P ops Q (o :: rest) a w:=by
 have hp:=hown.take hk;have hl:(xs.take k).length=k:=by rw[List.length_take];omega
 have hbl:=hp.blk;rw[hl]at hbl;have hr:Src w (Rep.size α) (some ⟨b,0,none⟩) 1 (Flat.cs y):=⟨by rw[Flat.cs_len];omega,λ_=>⟨b,0,rfl,λj u hu=>by rw[Nat.zero_add];exact hc j u hu⟩⟩;refine iK (P:=P) w hgd s x t ho B e i z (Rep.size α) bytes ht hi hz hsize hby hzs Flat.pos (.slice A k c) k ((xs.take k).flatMap Flat.cs) hs (by have:=hp.own;rw[hl]at this;exact this)
  (some ⟨b,0,none⟩) 1 1 (Flat.cs y) hx (by intro h;cases h) hr (Flat.cs_one y) (by simp only[maxLen];omega) ?_ hB ?_
 ·have:(k+1)*bytes<=1048577*256:=Nat.mul_le_mul (by omega) RA;omega
 ·intro v' w1 h1 h2 h3;have hb:Below B w w1:=(Below.refl B w).grown h2 hB (λg hg=>(hbl g hg).2);rcases h1.2 with ⟨_,h5⟩|⟨g,cap,cur,hv,hg,r⟩
  ·omega
  ·subst hv;refine h _ _ _ ⟨?_,?_⟩ hb
   ·rw[List.length_append,hl,List.flatMap_append];have e1:[y].flatMap Flat.cs=Flat.cs y:=by simp
    rw[e1];exact h1
   ·intro q hq;rcases List.mem_append.1 hq with hq|hq
    ·exact hp.ok q hq
    ·simp at hq;subst hq;exact hy
end
end
end Go.Proofs.YtopjjlmfilgngaaGreatDoor
