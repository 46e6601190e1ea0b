/-
  warehouseref4.offset and local. Plain functions of chapter 22: schemes, days of rows, partitions, as both texts compute them. No program is in sight. Plain law: the value of a well-typed expression fits its type; what each operator's operands then are. No program is in sight. Cells of partitions in a slice. No program is in sight. Plain law of chapter 22: Pick, Replace, Changed and the sums of bags. No program is in sight.
-/
import Derived.Test.YtopjjlmfilgngaaGreatDoorGah
namespace Go.Proofs.YtopjjlmfilgngaaGreatDoor
open Go.RowKit
set_option linter.unusedSimpArgs false
set_option linter.unusedVariables false
theorem Jy {l:List Shift}{k:Nat}(h:ik l k (l.drop k)=0): ∀s∈l.drop k, -840<=s.offset/\s.offset<=840/\1<=s.at_/\s.at_<=575999999:=by
 have key: ∀(r:List Shift) (k:Nat),ik l k r=0-> ∀s∈r, -840<=s.offset/\s.offset<=840/\1<=s.at_/\s.at_<=575999999:=by
  intro r
  induction r with
  |nil=>intro k _ s hs;cases hs
  |cons x r e=>
   intro k h s hs;rw[ik]at h
   split at h
   ·contradiction
   ·rename_i a;have a:jL l k x=0:=by omega
    rcases List.mem_cons.1 hs with rfl|hs
    ·rw[jL]at a
     split at a
     ·omega
     ·rename_i b;have c:pu s.offset=true:=by
       cases d:pu s.offset
       ·exact absurd (.inr (.inr d)) b
       ·rfl
      simp[pu]at c;have f:¬s.at_<1:=λq=>b (.inl q);have g:¬575999999<s.at_:=λq=>b (.inr (.inl q));omega
    ·exact e (k+1) h s hs
 exact key _ k h
theorem NU {z:Zone}(a:gT z=0):(-840<=z.offset/\z.offset<=840)/\ ∀s∈z.shifts, -840<=s.offset/\s.offset<=840/\1<=s.at_/\s.at_<=575999999:=by
 rw[gT]at a
 split at a
 ·omega
 ·split at a
  ·omega
  ·rename_i e b;refine⟨?_,Jy (k:=0) a⟩;have c:pu z.offset=true:=by
    cases d:pu z.offset
    ·exact absurd d b
    ·rfl
   simpa[pu] using c
structure Partn where
 day:Int
 rows:List Ent
instance:Inhabited Partn:=⟨⟨0,[]⟩⟩
instance:Rep Partn where
 size:=2
 rd w S cs x:= ∃A n c,cs=[.int .i64 x.day,.slice A n c]/\Sl w S A n c x.rows/\jU x.day
 len h:=by obtain⟨A,n,c,rfl,_⟩:=h;rfl
 keep hs h:=by obtain⟨A,n,c,rfl,h,hc⟩:=h;exact⟨A,n,c,rfl,h.keep hs,hc⟩
 mono hs h:=by obtain⟨A,n,c,rfl,h,hc⟩:=h;exact⟨A,n,c,rfl,h.mono hs,hc⟩
def OJ (z:Zone)(v:Val):Int:=
 if v.kind=4 then(if yR z v.num=0 then Hg z v.num else -1) else if v.kind=2/\0<=v.num/\v.num<=400000 then v.num else -1
def tL (at_:Int)(z:Zone)(row:List Val):Int:=if at_<0 then -1 else OJ z (row.getD at_.toNat default)
def qD (at_:Int)(z:Zone)(rows:List Ent)(d:Int):List Ent:=rows.filter λx=>tL at_ z x.row==d
def Asc (l:List Int):Prop:=l.Pairwise (· < ·)
def nX (last:Int):List Int->Int->Int
 | [],m=>m
 |x::l,m=>nX last l (if last<x/\x<m then x else m)
theorem qx (last:Int): ∀(l:List Int) (m:Int),nX last l m<=m/\(nX last l m=m\/(nX last l m∈l/\last<nX last l m))/\ ∀x∈l,last<x->nX last l m<=x
 | [],m=>⟨Int.le_refl _,.inl rfl,λx d=>by cases d⟩
 |y::l,m=>by
  rw[nX];by_cases h:last<y/\y<m
  ·rw[if_pos h];obtain⟨a,b,c⟩:=qx last l y;refine⟨by omega,?_,λx d e=>?_⟩
   ·rcases b with b|b
    ·exact .inr ⟨by rw[b];simp,by omega⟩
    ·exact .inr ⟨List.mem_cons_of_mem _ b.1,b.2⟩
   ·rcases List.mem_cons.1 d with rfl|d
    ·exact a
    ·exact c x d e
  ·rw[if_neg h];obtain⟨a,b,c⟩:=qx last l m;refine⟨a,?_,λx d e=>?_⟩
   ·rcases b with b|b
    ·exact .inl b
    ·exact .inr ⟨List.mem_cons_of_mem _ b.1,b.2⟩
   ·rcases List.mem_cons.1 d with rfl|d
    ·omega
    ·exact c x d e
def Fw (l ks:List Int)(last:Int):Prop:=Asc ks/\ ∀d,d∈ks↔d∈l/\d<=last
theorem Fw.start {l:List Int}(h: ∀d∈l, -1<=d):Fw l [] (-2):=⟨List.Pairwise.nil,λd=>⟨(λh=>by cases h),(λ⟨a,b⟩=>by have:=h d a;omega)⟩⟩
theorem Fw.done {l ks:List Int}{last:Int}(h:Fw l ks last)(a: ∀d∈l,d<=400000)(c:nX last l 400001=400001):Asc ks/\ ∀d,d∈ks↔d∈l:=by
 refine⟨h.1,λd=>⟨λhd=>((h.2 d).1 hd).1,λhd=>(h.2 d).2 ⟨hd,?_⟩⟩⟩;have b:=a d hd;by_cases q:d<=last
 ·exact q
 ·have:=(qx last l 400001).2.2 d hd (by omega);omega
theorem Fw.step {l ks:List Int}{last:Int}(h:Fw l ks last)(j:nX last l 400001≠400001):Fw l (ks++[nX last l 400001]) (nX last l 400001)/\last<nX last l 400001/\nX last l 400001∈l:=by
 obtain⟨a,b,c⟩:=qx last l 400001;obtain⟨f,g⟩:=b.resolve_left j;refine⟨⟨?_,λd=>?_⟩,g,f⟩
 ·rw[Asc,List.pairwise_append];refine⟨h.1,List.pairwise_singleton _ _,λx k y m=>?_⟩;simp at m;have:=((h.2 x).1 k).2;omega
 ·rw[List.mem_append,h.2 d];simp only[List.mem_singleton];constructor
  ·rintro(⟨e,i⟩|rfl)
   ·exact⟨e,by omega⟩
   ·exact⟨f,Int.le_refl _⟩
  ·rintro⟨e,i⟩;by_cases q:d<=last
   ·exact .inl ⟨e,q⟩
   ·have:=c d e (by omega);exact .inr (by omega)
def Has (k:Kd)(v:Val):Prop:=valid v=true/\(v.kind=k.kind\/(v.kind=0/\k.null=true))
def lW (k:Kd):Prop:=0<=k.kind/\k.kind<=4/\(k.kind=0->k.null=true)
def pz:List Kd->List Val->Prop
 | [],[]=>True
 |k::ks,v::vs=>(lW k/\Has k v)/\pz ks vs
 | _,_=>False
theorem pz.len: ∀{ks:List Kd} {vs:List Val},pz ks vs->ks.length=vs.length
 | [],[],_=>rfl
 | _::_,_::_,h=>by rw[List.length_cons,List.length_cons,pz.len h.2]
 | [],_::_,h=>h.elim
 | _::_,[],h=>h.elim
theorem pz.take: ∀{ks:List Kd} {vs:List Val} (n:Nat),pz ks vs->pz (ks.take n) (vs.take n)
 | [],[],_,_=>by simp[pz]
 | _::_,_::_,0,_=>trivial
 | _::_,_::_,n+1,h=>⟨h.1,pz.take n h.2⟩
 | [],_::_,_,h=>h.elim
 | _::_,[],_,h=>h.elim
theorem pz.drop: ∀{ks:List Kd} {vs:List Val} (n:Nat),pz ks vs->pz (ks.drop n) (vs.drop n)
 | [],[],_,_=>by simp[pz]
 | _::_,_::_,0,h=>h
 | _::_,_::_,n+1,h=>pz.drop n h.2
 | [],_::_,_,h=>h.elim
 | _::_,[],_,h=>h.elim
theorem pz.push {k:Kd}{v:Val}(a:lW k/\Has k v): ∀{ks:List Kd} {vs:List Val},pz ks vs->pz (ks++[k]) (vs++[v])
 | [],[],_=>⟨a,trivial⟩
 | _::_,_::_,h=>⟨h.1,pz.push a h.2⟩
 | [],_::_,h=>h.elim
 | _::_,[],h=>h.elim
theorem pz.valid: ∀{ks:List Kd} {vs:List Val},pz ks vs-> ∀v∈vs,valid v=true
 | [],[],_,_,h=>by cases h
 |k::ks,x::vs,h,v,a=>by
  rcases List.mem_cons.1 a with rfl|a
  ·exact h.1.2.1
  ·exact pz.valid h.2 v a
 | [],_::_,h,_,_=>h.elim
 | _::_,[],h,_,_=>h.elim
theorem CF:(⟨#[]⟩:ByteArray).toList=[]:=by rw[ByteArray.toList_eq]
theorem qC:jI ⟨#[]⟩=true:=by rw[jI,CF];rfl
theorem oG:valid iG=true:=by simp[valid,iG,qC]
theorem kG (b:Bool):valid (j5 b)=true:=by cases b<;>simp[valid,j5,qC]
theorem qi (n:Int)(ok:Bool)(h:ok=true->iP n=true):valid (ni n ok)=true:=by
 cases ok
 ·exact oG
 ·have:=h rfl;simp[iP]at this;simp[ni,valid,qC];omega
theorem zX (n:Int):valid (uV n)=true:=by
 rw[uV]
 split
 ·exact oG
 ·simp[valid,qC];omega
theorem Jz {a b:Int}:(wU a b).2=true->iP (wU a b).1=true:=by
 rw[wU];split
 ·rename_i h;intro _;simp[Bool.and_eq_true]at h;exact h.2
 ·intro h;cases h
theorem xC {a b:Int}:(qg a b).2=true->iP (qg a b).1=true:=by
 rw[qg];split
 ·rename_i h;intro _;simp[Bool.and_eq_true]at h;exact h.2
 ·intro h;cases h
theorem JC {a b:Int}:(xA a b).2=true->iP (xA a b).1=true:=by
 rw[xA];split
 ·rename_i h;intro _;simp[Bool.and_eq_true]at h;exact h.2
 ·intro h;cases h
theorem Nq {a b:Int}(c: -1073741824<=a/\a<=1073741824)(hb:b≠0): -1073741824<=a.fdiv b/\a.fdiv b<=1073741824:=by
 have key: ∀(a b:Int),0<b-> -1073741824<=a->a<=1073741824-> -1073741824<=a.fdiv b/\a.fdiv b<=1073741824:=by
  intro a b hb d e;rw[Int.fdiv_eq_ediv_of_nonneg _ (by omega)];constructor
  ·rw[Int.le_ediv_iff_mul_le hb];have:(-1073741824:Int)*b<= -1073741824*1:=Int.mul_le_mul_of_nonpos_left (by omega) (by omega);omega
  ·have:a / b<1073741825:=by
    rw[Int.ediv_lt_iff_lt_mul hb];have:(1073741825:Int)*1<=1073741825*b:=Int.mul_le_mul_of_nonneg_left (by omega) (by omega);omega
   omega
 rcases Int.lt_or_gt_of_ne hb with h|h
 ·have:=key (-a) (-b) (by omega) (by omega) (by omega);rw[Int.neg_fdiv_neg]at this;exact this
 ·exact key a b (by omega) c.1 c.2
theorem Ns {a b:Int}(hb: -1073741824<=b/\b<=1073741824)(e:b≠0): -1073741824<=a.fmod b/\a.fmod b<=1073741824:=by
 rcases Int.lt_or_gt_of_ne e with h|h
 ·have c:=Int.fmod_nonneg_of_pos (-a) (b:= -b) (by omega);have d:=Int.fmod_lt_of_pos (-a) (b:= -b) (by omega);rw[Int.neg_fmod_neg]at c d;omega
 ·have c:=Int.fmod_nonneg_of_pos a (b:=b) (by omega);have d:=Int.fmod_lt_of_pos a (b:=b) (by omega);omega
theorem JA {a b:Int}:(vC a b).2=true->iP (vC a b).1=true:=by
 rw[vC];split
 ·rename_i h;intro _;simp[iP]at h;have:=Nq (a:=a) (b:=b) (by omega) h.2;simp[iP];omega
 ·intro h;cases h
theorem JB {a b:Int}:(vF a b).2=true->iP (vF a b).1=true:=by
 rw[vF];split
 ·rename_i h;intro _;simp[iP]at h;have:=Ns (a:=a) (b:=b) (by omega) h.2;simp[iP];omega
 ·intro h;cases h
theorem tZ {t o:Int}(b:t<=575999999)(a:o<=840):tY t o<=400001:=by
 unfold tY;split<;>omega
theorem yS {t:Int}(b:t<=575999999): ∀(l:List Shift) (a o:Int),(∀s∈l,s.offset<=840/\s.at_<=575999999)->o<=840->0<=a->a<=400001->0<=uD t l a o/\uD t l a o<=400001
 | [],a,o,_,ho,h0,h1=>by
  have:=tZ b ho;rw[uD];omega
 |s::l,a,o,h,ho,h0,h1=>by
  have hs:=h s (by simp);have d:=tZ b ho;have e:=tZ (t:=s.at_-1) (o:=o) (by omega) ho;rw[uD]
  split
  ·omega
  ·exact yS b l _ _ (λq c=>h q (by simp[c])) hs.1 (by omega) (by omega)
theorem Ku {z:Zone}(c:gT z=0){t:Int}(b:t<=575999999):0<=Hg z t/\Hg z t<=400001:=by
 obtain⟨d,a⟩:=NU c;exact yS b z.shifts 0 z.offset (λs hs=>⟨(a s hs).2.1,(a s hs).2.2.2⟩) (by omega) (by omega) (by omega)
theorem FD (z:Zone)(t:Int):iP (OI z t).1=true:=by
 rw[OI]
 split
 ·rfl
 ·rename_i h;have h:yR z t=0:=by omega
  rw[yR]at h
  split at h
  ·omega
  ·split at h
   ·omega
   ·have:=Ku (z:=z) (by omega) (t:=t) (by omega);simp[iP];omega
theorem mh {v:Val}(h:valid v=true):v.ok:=by
 obtain⟨k,n,s⟩:=v;have e: ∀s:ByteArray,jI s=true->Str s:=by
  intro s hs;rw[jI,List.isEmpty_iff]at hs;have:s.size=s.toList.length:=by rw[ByteArray.toList_eq];rfl
  unfold Str;rw[this,hs];exact Nat.zero_le _
 rw[valid]at h;simp only at h;refine⟨?_,?_,?_⟩<;>simp only
 ·unfold jU;(repeat' split at h)<;>first|omega|(subst_vars;omega)|(cases h)
 ·unfold jU;(repeat' split at h)<;>simp at h<;>omega
 ·(repeat' split at h)<;>simp at h<;>first|exact e _ h.2|exact e _ h.1|(unfold Str;omega)
theorem GN {v:Val}(h:valid v=true):0<=v.kind/\v.kind<=4:=by
 rw[valid]at h
 (repeat' split at h)<;>first|omega|(cases h)
theorem AY {v:Val}(h:valid v=true)(b:v.kind=0):v=iG:=by
 obtain⟨k,n,s⟩:=v;simp only at b;subst b;simp[valid,jI]at h;obtain⟨c,a⟩:=h;subst c;have:s=⟨#[]⟩:=by
  rw[ByteArray.toList_eq]at a;obtain⟨⟨l⟩⟩:=s;simp at a;subst a;rfl
 subst this;rfl
theorem tT {k:Kd}{v:Val}(b:lW k)(h:Has k v)(c:v.kind=0):k.null=true:=by
 rcases h.2 with a|a
 ·exact b.2.2 (by omega)
 ·exact a.2
theorem ry {k:Kd}{v:Val}(c:lW k)(h:Has k v){j:Int}(b:fits k j=true):v.kind=j\/v.kind=0:=by
 simp[fits]at b;rcases h.2 with a|a
 ·omega
 ·exact .inr a.1
theorem ku {k:Int}{b:Bool}{v:Val}(a:valid v=true)(h:v.kind=k\/(v.kind=0/\b=true)):Has ⟨k,b⟩ v:=⟨a,h⟩
theorem rz {k:Kd}(h:k.null=true):Has k iG:=⟨oG,.inr ⟨rfl,h⟩⟩
theorem Jn (n:Int)(ok:Bool):(ni n ok).kind=2\/(ni n ok).kind=0:=by cases ok<;>simp[ni,iG]
theorem BV (n:Int):(uV n).kind=4\/(uV n).kind=0:=by rw[uV];split<;>simp[iG]
theorem xe {x y:Kd}(h:(common x y).2=true):(x.kind=(common x y).1\/x.kind=0)/\(y.kind=(common x y).1\/y.kind=0):=by
 rw[common]at h⊢
 split
 ·rename_i a;exact⟨.inr a,.inl rfl⟩
 ·rename_i a;rw[if_neg a]at h;simp[fits]at h;exact⟨.inl rfl,h⟩
theorem yP {x y:Kd}(a:lW x)(b:lW y):0<=(common x y).1/\(common x y).1<=4:=by
 rw[common];split
 ·exact⟨b.1,b.2.1⟩
 ·exact⟨a.1,a.2.1⟩
theorem xJ {x y:Kd}(h:(common x y).2=true)(a:(common x y).1=0):x.kind=0/\y.kind=0:=by
 have:=xe h;omega
theorem Mj {zs:List Zone}{b:Int}{nm:ByteArray}{x:Kd}{v:Val}(i:b=2\/b=3\/b=16\/b=19\/b=20)(g:lW x)(d:Has x v)(h:(sS b x).2=true):
  lW (sS b x).1/\Has (sS b x).1 (JI zs b nm v):=by
 by_cases a:v.kind=0
 ·have e:=tT g d a;rcases i with rfl|rfl|rfl|rfl|rfl
  ·simp[sS,JI,a,lW];exact rz e
  ·simp[sS,JI,a,lW];exact rz e
  ·simp[sS,JI,a,lW];exact ku (kG _) (.inl rfl)
  ·simp[sS,JI,a,lW];exact rz e
  ·simp[sS,JI,a,lW];exact rz e
 ·rcases i with rfl|rfl|rfl|rfl|rfl
  ·simp[sS,JI,a,lW];exact ku (kG _) (.inl rfl)
  ·have f:=(ry g d (j:=2) (by simpa[sS] using h)).resolve_right a;have hs:(qg 0 v.num).2=true:=by
    have c:=d.1;rw[valid,if_neg a,if_neg (by omega),if_pos f]at c;simp at c;rw[qg,if_pos (by simp[iP];omega)]
   simp[sS,JI,a,lW,hs];exact ku (qi _ _ λ_=>xC hs) (.inl rfl)
  ·simp[sS,JI,a,lW];exact ku (kG _) (.inl rfl)
  ·have f:=(ry g d (j:=3) (by simpa[sS] using h)).resolve_right a;have hs:v.str.size<=64:=by
    have c:=d.1;rw[valid,if_neg a,if_neg (by omega),if_neg (by omega),if_pos f]at c;simp at c;exact c.2
   simp[sS,JI,a,lW];exact ku (qi _ _ λ_=>by simp[iP];omega) (.inl rfl)
  ·simp[sS,JI,a,lW];exact ku (qi _ _ λ_=>FD _ _) (.inl rfl)
theorem xR {a b:Val}{s:Int}{x y:Kd}(n:lW x)(j:Has x a)(o:lW y)(hb:Has y b)(h:fits x 1=true)(i:fits y 1=true):Has ⟨1,x.null || y.null⟩ (De a b s):=by
 rw[De]
 split
 ·exact ku (kG _) (.inl rfl)
 ·split
  ·rename_i p c;refine ku oG (.inr ⟨rfl,?_⟩);have key: ∀{k:Kd} {v:Val},lW k->Has k v->fits k 1=true->truth v<0->k.null=true:=by
    intro k v g e l m;rcases ry g e l with d|d
    ·exfalso;rw[truth,if_pos ⟨d,e.1⟩]at m;have f:=e.1;rw[valid,if_neg (by omega),if_pos d]at f;simp at f;omega
    ·exact tT g e d
   rcases c with c|c
   ·rw[key n j h c];rfl
   ·rw[key o hb i c];simp
  ·exact ku (kG _) (.inl rfl)
theorem Im {zs:List Zone}{n:Node}{x y:Kd}{a b:Val}(H:(4<=n.op/\n.op<=15)\/n.op=18)(g:lW x)(e:Has x a)(j:lW y)(hb:Has y b)(h:(gM n.op x y).2=true):
  lW (gM n.op x y).1/\Has (gM n.op x y).1 (vG zs n [a,b]):=by
 obtain⟨c,v,nm,J⟩:=n;simp only at H h⊢;by_cases p:c=14
 ·subst p;simp[gM]at h;simp[gM,vG,lW];exact xR g e j hb h.1 h.2
 by_cases r:c=15
 ·subst r;simp[gM]at h;simp[gM,vG,lW];exact xR g e j hb h.1 h.2
 by_cases s:c=18
 ·subst s;simp[gM]at h;have t:=xe h;have w:=yP g j;have I:=xJ h;simp only[gM,vG];refine⟨⟨w.1,w.2,λd=>?_⟩,?_⟩
  ·simp only[Int.reduceEq,or_self,if_false,if_true]at d⊢;have:=I d;simp[g.2.2 this.1,j.2.2 this.2]
  ·simp only[Int.reduceEq,or_self,if_false,if_true];by_cases f:a.kind=0
   ·rw[if_pos f];have z:=tT g e f;refine ku hb.1 ?_;rcases hb.2 with k|k
    ·rcases t.2 with m|m
     ·exact .inl (by omega)
     ·exact .inr ⟨by omega,by simp[z,j.2.2 m]⟩
    ·exact .inr ⟨k.1,by simp[z,k.2]⟩
   ·rw[if_neg f];refine ku e.1 ?_;rcases e.2 with k|k
    ·rcases t.1 with m|m
     ·exact .inl (by omega)
     ·omega
    ·omega
 have M:4<=c/\c<=13:=by omega
 have F:lW (gM c x y).1:=by
  have l:c=4\/c=5\/c=6\/c=7\/c=8\/c=9\/c=10\/c=11\/c=12\/c=13:=by omega
  rcases l with rfl|rfl|rfl|rfl|rfl|rfl|rfl|rfl|rfl|rfl<;>simp[gM]<;>(repeat' split)<;>simp[lW]
 refine⟨F,?_⟩;simp only[vG];rw[if_neg p,if_neg r,if_neg s];by_cases d:a.kind=0\/b.kind=0
 ·rw[if_pos d];refine rz ?_;have u:x.null=true\/y.null=true:=by
   rcases d with d|d
   ·exact .inl (tT g e d)
   ·exact .inr (tT j hb d)
  have G:(x.null || y.null)=true:=by simpa using u
  have l:c=4\/c=5\/c=6\/c=7\/c=8\/c=9\/c=10\/c=11\/c=12\/c=13:=by omega
  rcases l with rfl|rfl|rfl|rfl|rfl|rfl|rfl|rfl|rfl|rfl<;>simp[gM]<;>(repeat' split)<;>first|exact G|rfl|(simp;done)|simpa using u
 ·rw[if_neg d];have f:a.kind≠0:=λq=>d (.inl q);have o:b.kind≠0:=λq=>d (.inr q);have K:a.kind=x.kind:=e.2.resolve_right λq=>f q.1;have L:b.kind=y.kind:=hb.2.resolve_right λq=>o q.1;have num: ∀n ok,(ok=true->iP n=true)->Has ⟨2,true⟩ (ni n ok):=λn ok E=>ku (qi n ok E) ((Jn n ok).elim .inl λq=>.inr ⟨q,rfl⟩);have l:c=4\/c=5\/c=6\/c=7\/c=8\/c=9\/c=10\/c=11\/c=12\/c=13:=by omega
  rcases l with rfl|rfl|rfl|rfl|rfl|rfl|rfl|rfl|rfl|rfl
  ·simp only[gM,jH,mF,Int.reduceEq,or_self,if_false,if_true];by_cases i:x.kind=4
   ·rw[if_pos i,if_pos (by omega)];exact ku (zX _) ((BV _).elim .inl λq=>.inr ⟨q,rfl⟩)
   ·rw[if_neg i,if_neg (by omega)];exact num _ _ Jz
  ·simp only[gM,jH,mF,Int.reduceEq,or_self,if_false,if_true]at h⊢;by_cases A:y.kind=4
   ·rw[if_pos A]at h⊢;have i:a.kind=4:=(ry g e h).resolve_right f;rw[if_neg (by omega)];have B:=e.1;have C:=hb.1;rw[valid,if_neg f,if_neg (by omega),if_neg (by omega),if_neg (by omega),if_pos i]at B;rw[valid,if_neg o,if_neg (by omega),if_neg (by omega),if_neg (by omega),if_pos (by omega)]at C;simp at B C;have hs:(qg a.num b.num).2=true:=by rw[qg,if_pos (by simp[iP];omega)]
    rw[hs];exact ku (qi _ _ λ_=>xC hs) (.inl rfl)
   ·rw[if_neg A]at h⊢;by_cases i:x.kind=4
    ·rw[if_pos i]at h⊢;have D:b.kind=2:=(ry j hb h).resolve_right o;rw[if_pos ⟨by omega,D⟩];exact ku (zX _) ((BV _).elim .inl λq=>.inr ⟨q,rfl⟩)
    ·rw[if_neg i]at h⊢;rw[if_neg (by omega)];exact num _ _ xC
  ·simp only[gM,jH,mF,Int.reduceEq,or_self,or_false,false_or,or_true,true_or,if_false,if_true];exact num _ _ JC
  ·simp only[gM,jH,mF,Int.reduceEq,or_self,or_false,false_or,or_true,true_or,if_false,if_true];exact num _ _ JA
  ·simp only[gM,jH,mF,Int.reduceEq,or_self,or_false,false_or,or_true,true_or,if_false,if_true];exact num _ _ JB
  ·simp only[gM,jH,Int.reduceEq,or_self,if_false,if_true]
   split
   ·exact rz rfl
   ·rename_i hs;exact ku (by simp[valid];simpa using hs) (.inl rfl)
  ·simp only[gM,jH,Int.reduceEq,or_self,if_false,if_true];exact ku (kG _) (.inl rfl)
  ·simp only[gM,jH,Int.reduceEq,or_self,if_false,if_true];exact ku (kG _) (.inl rfl)
  ·simp only[gM,jH,Int.reduceEq,or_self,if_false,if_true];exact ku (kG _) (.inl rfl)
  ·simp only[gM,jH,Int.reduceEq,or_self,if_false,if_true];exact ku (kG _) (.inl rfl)
theorem K7 {zs:List Zone}{n:Node}{y z:Kd}{a b c:Val}{m:List Val}(f:lW y)(hb:Has y b)(o:lW z)(r:Has z c)(h:(common y z).2=true):
  lW ⟨(common y z).1,y.null || z.null⟩/\Has ⟨(common y z).1,y.null || z.null⟩ (vG zs n (a::b::c::m)):=by
 have d:=xe h;have j:=yP f o;have p:=xJ h;refine⟨⟨j.1,j.2,λq=>?_⟩,?_⟩
 ·have:=p q;simp[f.2.2 this.1]
 ·have one: ∀{k:Kd} {v:Val},lW k->Has k v->(k.kind=(common y z).1\/k.kind=0)->(k.null=true->(y.null || z.null)=true)->Has ⟨(common y z).1,y.null || z.null⟩ v:=by
   intro k v s l d i;refine ku l.1 ?_;rcases l.2 with e|e
   ·rcases d with g|g
    ·exact .inl (by omega)
    ·exact .inr ⟨by omega,i (s.2.2 g)⟩
   ·exact .inr ⟨e.1,i e.2⟩
  simp only[vG]
  split
  ·exact one f hb d.1 (λq=>by simp[q])
  ·exact one o r d.2 (λq=>by simp[q])
theorem In.part {w:World}{A:Option Addr}{n c k:Nat}{xs:List Partn}(h:In w A n c xs)(d:k<n): ∃b off x,A=some ⟨b,off,none⟩/\b<w.heap.size/\Hl (xs.drop k=x::xs.drop (k+1))/\
  ∃A' n' c',w.cell? ⟨b,off+k*2,none⟩=some (.int .i64 x.day)/\w.cell? ⟨b,off+k*2+1,none⟩=some (.slice A' n' c')/\In w A' n' c' x.rows/\jU x.day:=by
 obtain⟨b,off,x,e,hb,g,i,⟨A',n',c',rfl,hs,f⟩,a⟩:=h.get d;exact⟨b,off,x,e,hb,g,A',n',c',a 0 (by simp),a 1 (by simp),hs,f⟩
def H7 (xs:List Ent):Int×List Ent:=if fQ (λ_ x=>ib x) 0 xs≠0 then(fQ (λ_ x=>ib x) 0 xs,[]) else rU xs
def xY (at_:Int)(z:Zone)(rows:List Ent)(d:Int):List Ent:=rows.filter λx=>tL at_ z x.row != d
def Il (at_:Int)(z:Zone)(old new:List Ent)(a:List Int):Prop:=
 Asc a/\ ∀d,d∈a↔qD at_ z old d≠qD at_ z new d
theorem uY {b:List Ent}(h:gN b=0)(p:Ent->Bool):gN (b.filter p)=0:=by
 obtain⟨a,c,d⟩:=lX.1 h;exact lX.2 ⟨Nat.le_trans (List.length_filter_le _ _) a,λx e=>c x (List.mem_filter.1 e).1,d.filter p⟩
theorem MX {xs:List Ent}:fQ (λ_ x=>ib x) 0 xs=0↔ ∀x∈xs,ib x=0:=by
 rw[ww];constructor
 ·intro h x a;obtain⟨j,b⟩:=List.mem_iff_getElem?.1 a;exact h j x b
 ·intro h j x a;exact h x (List.mem_iff_getElem?.2 ⟨j,a⟩)
theorem zA {xs:List Ent}(h: ∀x∈xs,ib x=0):H7 xs=rU xs:=by
 rw[H7,if_neg (by rw[MX.2 h];simp)]
theorem yK {b:List Ent}(h:gN b=0): ∀x∈b,ib x=0:=λx a=>((lX.1 h).2.1 x a).1
theorem qO {p:Ent->Bool}{l:List Ent}{r:List Val}(h: ∀x∈l,x.row=r->p x=true):cnt (l.filter p) r=cnt l r:=by
 induction l with
 |nil=>rfl
 |cons x l a=>
  have a:=a λy b=>h y (by simp[b]);by_cases q:p x=true
  ·rw[List.filter_cons_of_pos q,cnt,cnt,a]
  ·rw[List.filter_cons_of_neg q,cnt,a,if_neg]
   ·omega
   ·intro e;exact q (h x (by simp) (jd.1 e))
theorem qN {p:Ent->Bool}{l:List Ent}{r:List Val}(h: ∀x∈l,x.row=r->p x=false):cnt (l.filter p) r=0:=by
 refine lu λx c e=>?_;obtain⟨b,a⟩:=List.mem_filter.1 c;rw[h x b (jd.1 e)]at a;cases a
theorem Iz {at_:Int}{z:Zone}{l:List Ent}{d:Int}{r:List Val}:cnt (xY at_ z l d) r=if tL at_ z r=d then 0 else cnt l r:=by
 split
 ·rename_i h;exact qN λx _ e=>by rw[e,h];simp
 ·rename_i h;exact qO λx _ e=>by rw[e];simpa using h
theorem xc {at_:Int}{z:Zone}{l:List Ent}{d:Int}{r:List Val}:cnt (qD at_ z l d) r=if tL at_ z r=d then cnt l r else 0:=by
 split
 ·rename_i h;exact qO λx _ e=>by rw[e];simpa using h
 ·rename_i h;exact qN λx _ e=>by rw[e];simpa using h
structure Mixed (at_:Int) (z:Zone) (old new now:List Ent) (done:List Int):Prop where
 bag:gN now=0
 cnt: ∀r,cnt now r=if tL at_ z r∈done then cnt new r else cnt old r
theorem Mixed.start {at_:Int}{z:Zone}{old new:List Ent}(h:gN old=0):Mixed at_ z old new old []:=⟨h,λr=>by simp⟩
theorem yu {b:List Ent}(h:gN b=0):Pe b:=λx a=>((lX.1 h).2.1 x a).2
theorem nK {b:List Ent}(h:gN b=0):mI b:=(lX.1 h).2.2
theorem ME {a b:List Ent}(h:gN a=0)(c:gN b=0)(d: ∀r,Proofs.YtopjjlmfilgngaaGreatDoor.cnt a r=Proofs.YtopjjlmfilgngaaGreatDoor.cnt b r):a=b:=GZ (nK h) (nK c) (yu h) (yu c) d
theorem Df {b:List Ent}(h:gN b=0){r:List Val}:Proofs.YtopjjlmfilgngaaGreatDoor.cnt b r≠0↔ ∃x∈b,x.row=r:=by
 constructor
 ·intro q;by_cases g: ∃x∈b,x.row=r
  ·exact g
  ·exact absurd (lu λx a e=>g ⟨x,a,jd.1 e⟩) q
 ·rintro⟨x,a,rfl⟩;rw[(nK h).mem a];exact yu h x a
theorem Jo {at_:Int}{z:Zone}{a b:List Ent}(h:gN a=0)(c:gN b=0){d:Int}(e: ∀r,tL at_ z r=d->Proofs.YtopjjlmfilgngaaGreatDoor.cnt a r=Proofs.YtopjjlmfilgngaaGreatDoor.cnt b r):qD at_ z a d=qD at_ z b d:=
 ME (uY h _) (uY c _) λr=>by
  show Proofs.YtopjjlmfilgngaaGreatDoor.cnt (qD at_ z a d) r=Proofs.YtopjjlmfilgngaaGreatDoor.cnt (qD at_ z b d) r;rw[xc,xc]
  split
  ·rename_i q;exact e r q
  ·rfl
theorem Mixed.ne {at_:Int}{z:Zone}{old new now:List Ent}{a done l:List Int}{d:Int}(h:Mixed at_ z old new now done)(i:gN old=0)(g:gN new=0)(c:Il at_ z old new a)(e:a=done++d::l):now≠new:=by
 rintro rfl;have f:=(c.2 d).1 (by rw[e];simp);apply f;refine Jo i g λr j=>?_;have b:=h.cnt r;rw[if_neg]at b
 ·exact b.symm
 ·rw[j];intro q;have:=c.1;rw[e]at this;have:=(List.pairwise_append.1 this).2.2 d q d (by simp);omega
theorem CW {b:List Ent}(h:mI b)(j:Pe b){l:List Ent}(c: ∀r,Proofs.YtopjjlmfilgngaaGreatDoor.cnt b r≠0-> ∃x∈l,x.row=r):b.length<=l.length:=by
 have d:(b.map Ent.row).Nodup:=by
  rw[List.nodup_iff_pairwise_ne,List.pairwise_map];refine h.imp λ{x y} q e=>?_;rw[e,jd.2 rfl]at q;omega
 have g: ∀r∈b.map Ent.row,r∈l.map Ent.row:=λr f=>by
  obtain⟨x,a,rfl⟩:=List.mem_map.1 f;obtain⟨y,i,e⟩:=c x.row (by rw[h.mem a];exact j x a);exact List.mem_map.2 ⟨y,i,e⟩
 have:=d.length_le_of_subset g;simpa using this
theorem Mixed.rows {at_:Int}{z:Zone}{old new now:List Ent}{done:List Int}(h:Mixed at_ z old new now done): ∀x∈now,∃y∈old++new,y.row=x.row:=λx c=>by
 have b:=(Df h.bag (r:=x.row)).2 ⟨x,c,rfl⟩;by_cases g: ∃y∈old++new,y.row=x.row
 ·exact g
 ·exfalso;rw[h.cnt]at b;apply b
  split
  ·exact lu λy a e=>g ⟨y,by simp[a],jd.1 e⟩
  ·exact lu λy a e=>g ⟨y,by simp[a],jd.1 e⟩
theorem Mixed.len {at_:Int}{z:Zone}{old new now:List Ent}{done:List Int}(h:Mixed at_ z old new now done):now.length<=(old++new).length:=
 CW (nK h.bag) (yu h.bag) λr a=>by
  obtain⟨x,b,rfl⟩:=(Df h.bag).1 a;exact h.rows x b
theorem Mixed.step {at_:Int}{z:Zone}{old new now:List Ent}{done:List Int}{d:Int}(h:Mixed at_ z old new now done)(o:gN old=0)(k:gN new=0)(t:(old++new).length<=4096):
  ∃m,rU (xY at_ z now d++qD at_ z new d)=(0,m)/\Mixed at_ z old new m (done++[d]):=by
 have i: ∀r,Proofs.YtopjjlmfilgngaaGreatDoor.cnt (xY at_ z now d++qD at_ z new d) r=if tL at_ z r∈done++[d] then Proofs.YtopjjlmfilgngaaGreatDoor.cnt new r else Proofs.YtopjjlmfilgngaaGreatDoor.cnt old r:=λr=>by
  rw[vX,Iz,xc,h.cnt];by_cases q:tL at_ z r=d
  ·simp[q]
  ·simp[q]
 have p: ∀x∈xY at_ z now d++qD at_ z new d,ib x=0:=λx a=>by
  rcases List.mem_append.1 a with a|a
  ·exact yK h.bag x (List.mem_filter.1 a).1
  ·exact yK k x (List.mem_filter.1 a).1
 have j:jv 0 (jw (jD (xY at_ z now d++qD at_ z new d)))=false:=by
  refine(vJ _ 0 (pO _) (by omega)).2 ⟨λx a=>?_,?_⟩
  ·have c:=(uH (uM _)).mem a;rw[rC,rJ,i]at c;have s:=pO _ x a;have: ∀b:List Ent,gN b=0->Proofs.YtopjjlmfilgngaaGreatDoor.cnt b x.row=x.count-> -65536<=x.count/\x.count<=65536:=λb hb e=>by
    obtain⟨y,f,n⟩:=(Df hb (r:=x.row)).1 (by rw[e];exact s);have:=(nK hb).mem f;rw[n,e]at this;have:=MW (yK hb y f);omega
   split at c
   ·exact this new k c
   ·exact this old o c
  ·have:(jw (jD (xY at_ z now d++qD at_ z new d))).length<=(old++new).length:=
    CW (uH (uM _)) (pO _) λr l=>by
     rw[rC,rJ,i]at l;by_cases g: ∃y∈old++new,y.row=r
     ·exact g
     ·exfalso;apply l
      split
      ·exact lu λy f e=>g ⟨y,by simp[f],jd.1 e⟩
      ·exact lu λy f e=>g ⟨y,by simp[f],jd.1 e⟩
   omega
 rw[um]at j;have hb:rU (xY at_ z now d++qD at_ z new d)=(0,jw (jD (xY at_ z now d++qD at_ z new d))):=by rw[rU,j];simp
 have c:=Cr p;rw[hb]at c;exact⟨_,hb,c,λr=>by rw[rC,rJ,i]⟩
end Go.Proofs.YtopjjlmfilgngaaGreatDoor
