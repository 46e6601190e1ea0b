/-
  warehouseref4.offset and local. Plain functions of chapter 22: schemes, days of rows, partitions, as both texts compute them. No program is in sight. Plain law: the value of a well-typed expression fits its type; what each operator's operands then are. No program is in sight. Cells of partitions in a slice. No program is in sight. Plain law of chapter 22: Pick, Replace, Changed and the sums of bags. No program is in sight.
-/
import Derived.Test.YtopjjlmfilgngaaGreatDoorGaj
import Derived.Test.YtopjjlmfilgngaaGreatDoorGad
import Derived.Test.YtopjjlmfilgngaaGreatDoorGaa
namespace Go.Proofs.YtopjjlmfilgngaaGreatDoor
open Go.RowKit
set_option linter.unusedSimpArgs false
set_option linter.unusedVariables false
theorem K9 {l:List Shift}{k:Nat}(h:aZ l k (l.drop k)=0): ∀s∈l.drop k, -840<=s.offset/\s.offset<=840/\1<=s.at_/\s.at_<=575999999:=by
 have key: ∀(r:List Shift) (k:Nat),aZ l k r=0-> ∀s∈r, -840<=s.offset/\s.offset<=840/\1<=s.at_/\s.at_<=575999999:=by
  intro r
  induction r with
  |nil=>intro k _ s hs;cases hs
  |cons x r ih=>
   intro k h s hs;rw[aZ]at h
   split at h
   ·contradiction
   ·rename_i h0;have h0:eB l k x=0:=by omega
    rcases List.mem_cons.1 hs with rfl|hs
    ·rw[eB]at h0
     split at h0
     ·omega
     ·rename_i hn;have h3:lT s.offset=true:=by
       cases hq:lT s.offset
       ·exact absurd (.inr (.inr hq)) hn
       ·rfl
      simp[lT]at h3;have h1:¬s.at_<1:=λq=>hn (.inl q);have h2:¬575999999<s.at_:=λq=>hn (.inr (.inl q));omega
    ·exact ih (k+1) h s hs
 exact key _ k h
theorem Ri {z:Zone}(hz:aP z=0):(-840<=z.offset/\z.offset<=840)/\ ∀s∈z.shifts, -840<=s.offset/\s.offset<=840/\1<=s.at_/\s.at_<=575999999:=by
 rw[aP]at hz
 split at hz
 ·omega
 ·split at hz
  ·omega
  ·rename_i h1 h2;refine ⟨?_,K9 (k:=0) hz⟩;have h3:lT z.offset=true:=by
    cases hq:lT z.offset
    ·exact absurd hq h2
    ·rfl
   simpa[lT] using h3
structure Partn where
 day:Int
 rows:List Ent
instance:Inhabited Partn:=⟨⟨0,[]⟩⟩
instance:Rep Partn where
 size:=2
 rd w S cs x:= ∃A n c,cs=[.int .i64 x.day,.slice A n c]/\Sl w S A n c x.rows/\eZ x.day
 len h:=by obtain ⟨A,n,c,rfl,_⟩:=h;rfl
 keep hs h:=by obtain ⟨A,n,c,rfl,h,hc⟩:=h;exact ⟨A,n,c,rfl,h.keep hs,hc⟩
 mono hs h:=by obtain ⟨A,n,c,rfl,h,hc⟩:=h;exact ⟨A,n,c,rfl,h.mono hs,hc⟩
def Tp (z:Zone)(v:Val):Int:=
 if v.kind=4 then (if yL z v.num=0 then Jl z v.num else -1) else if v.kind=2/\0<=v.num/\v.num<=400000 then v.num else -1
def qY (at_:Int)(z:Zone)(row:List Val):Int:=if at_<0 then -1 else Tp z (row.getD at_.toNat default)
def nJ (at_:Int)(z:Zone)(rows:List Ent)(d:Int):List Ent:=rows.filter λx=>qY at_ z x.row==d
def Asc (l:List Int):Prop:=l.Pairwise (· < ·)
def kS (last:Int):List Int->Int->Int
 | [],m=>m
 |x :: l,m=>kS last l (if last<x/\x<m then x else m)
theorem nE (last:Int): ∀(l:List Int) (m:Int),kS last l m<=m/\(kS last l m=m\/(kS last l m∈l/\last<kS last l m))/\ ∀x∈l,last<x->kS last l m<=x
 | [],m=>⟨Int.le_refl _,.inl rfl,λx hx=>by cases hx⟩
 |y :: l,m=>by
  rw[kS];by_cases h:last<y/\y<m
  ·rw[if_pos h];obtain ⟨a,b,c⟩:=nE last l y;refine ⟨by omega,?_,λx hx hl=>?_⟩
   ·rcases b with b|b
    ·exact .inr ⟨by rw[b];simp,by omega⟩
    ·exact .inr ⟨List.mem_cons_of_mem _ b.1,b.2⟩
   ·rcases List.mem_cons.1 hx with rfl|hx
    ·exact a
    ·exact c x hx hl
  ·rw[if_neg h];obtain ⟨a,b,c⟩:=nE last l m;refine ⟨a,?_,λx hx hl=>?_⟩
   ·rcases b with b|b
    ·exact .inl b
    ·exact .inr ⟨List.mem_cons_of_mem _ b.1,b.2⟩
   ·rcases List.mem_cons.1 hx with rfl|hx
    ·omega
    ·exact c x hx hl
def GJ (l ks:List Int)(last:Int):Prop:=Asc ks/\ ∀d,d∈ks↔d∈l/\d<=last
theorem GJ.start {l:List Int}(h: ∀d∈l, -1<=d):GJ l [] (-2):=⟨List.Pairwise.nil,λd=>⟨(λh=>by cases h),(λ⟨h1,h2⟩=>by have:=h d h1;omega)⟩⟩
theorem GJ.done {l ks:List Int}{last:Int}(h:GJ l ks last)(hm: ∀d∈l,d<=400000)(he:kS last l 400001=400001):Asc ks/\ ∀d,d∈ks↔d∈l:=by
 refine ⟨h.1,λd=>⟨λhd=>((h.2 d).1 hd).1,λhd=>(h.2 d).2 ⟨hd,?_⟩⟩⟩;have h1:=hm d hd;by_cases q:d<=last
 ·exact q
 ·have:=(nE last l 400001).2.2 d hd (by omega);omega
theorem GJ.step {l ks:List Int}{last:Int}(h:GJ l ks last)(he:kS last l 400001≠400001):GJ l (ks++[kS last l 400001]) (kS last l 400001)/\last<kS last l 400001/\kS last l 400001∈l:=by
 obtain ⟨a,b,c⟩:=nE last l 400001;obtain ⟨b1,b2⟩:=b.resolve_left he;refine ⟨⟨?_,λd=>?_⟩,b2,b1⟩
 ·rw[Asc,List.pairwise_append];refine ⟨h.1,List.pairwise_singleton _ _,λx hx y hy=>?_⟩;simp at hy;have:=((h.2 x).1 hx).2;omega
 ·rw[List.mem_append,h.2 d];simp only[List.mem_singleton];constructor
  ·rintro (⟨h1,h2⟩|rfl)
   ·exact ⟨h1,by omega⟩
   ·exact ⟨b1,Int.le_refl _⟩
  ·rintro ⟨h1,h2⟩;by_cases q:d<=last
   ·exact .inl ⟨h1,q⟩
   ·have:=c d h1 (by omega);exact .inr (by omega)
def Has (k:Kd)(v:Val):Prop:=valid v=true/\(v.kind=k.kind\/(v.kind=0/\k.null=true))
def iL (k:Kd):Prop:=0<=k.kind/\k.kind<=4/\(k.kind=0->k.null=true)
def lU:List Kd->List Val->Prop
 | [],[]=>True
 |k :: ks,v :: vs=>(iL k/\Has k v)/\lU ks vs
 | _,_=>False
theorem lU.len: ∀{ks:List Kd} {vs:List Val},lU ks vs->ks.length=vs.length
 | [],[],_=>rfl
 | _ :: _,_ :: _,h=>by rw[List.length_cons,List.length_cons,lU.len h.2]
 | [],_ :: _,h=>h.elim
 | _ :: _,[],h=>h.elim
theorem lU.take: ∀{ks:List Kd} {vs:List Val} (n:Nat),lU ks vs->lU (ks.take n) (vs.take n)
 | [],[],_,_=>by simp[lU]
 | _ :: _,_ :: _,0,_=>trivial
 | _ :: _,_ :: _,n+1,h=>⟨h.1,lU.take n h.2⟩
 | [],_ :: _,_,h=>h.elim
 | _ :: _,[],_,h=>h.elim
theorem lU.drop: ∀{ks:List Kd} {vs:List Val} (n:Nat),lU ks vs->lU (ks.drop n) (vs.drop n)
 | [],[],_,_=>by simp[lU]
 | _ :: _,_ :: _,0,h=>h
 | _ :: _,_ :: _,n+1,h=>lU.drop n h.2
 | [],_ :: _,_,h=>h.elim
 | _ :: _,[],_,h=>h.elim
theorem lU.push {k:Kd}{v:Val}(hk:iL k/\Has k v): ∀{ks:List Kd} {vs:List Val},lU ks vs->lU (ks++[k]) (vs++[v])
 | [],[],_=>⟨hk,trivial⟩
 | _ :: _,_ :: _,h=>⟨h.1,lU.push hk h.2⟩
 | [],_ :: _,h=>h.elim
 | _ :: _,[],h=>h.elim
theorem lU.valid: ∀{ks:List Kd} {vs:List Val},lU ks vs-> ∀v∈vs,valid v=true
 | [],[],_,_,h=>by cases h
 |k :: ks,x :: vs,h,v,hv=>by
  rcases List.mem_cons.1 hv with rfl|hv
  ·exact h.1.2.1
  ·exact lU.valid h.2 v hv
 | [],_ :: _,h,_,_=>h.elim
 | _ :: _,[],h,_,_=>h.elim
theorem Dt:(⟨#[]⟩:ByteArray).toList=[]:=by rw[ByteArray.toList_eq]
theorem nI:ek ⟨#[]⟩=true:=by rw[ek,Dt];rfl
theorem lg:valid bG=true:=by simp[valid,bG,nI]
theorem gG (b:Bool):valid (fw b)=true:=by cases b <;> simp[valid,fw,nI]
theorem mV (n:Int)(ok:Bool)(h:ok=true->bO n=true):valid (jQ n ok)=true:=by
 cases ok
 ·exact lg
 ·have:=h rfl;simp[bO]at this;simp[jQ,valid,nI];omega
theorem Ah (n:Int):valid (sS n)=true:=by
 rw[sS]
 split
 ·exact lg
 ·simp[valid,nI];omega
theorem La {a b:Int}:(vV a b).2=true->bO (vV a b).1=true:=by
 rw[vV];split
 ·rename_i h;intro _;simp[Bool.and_eq_true]at h;exact h.2
 ·intro h;cases h
theorem wK {a b:Int}:(mR a b).2=true->bO (mR a b).1=true:=by
 rw[mR];split
 ·rename_i h;intro _;simp[Bool.and_eq_true]at h;exact h.2
 ·intro h;cases h
theorem Ld {a b:Int}:(wJ a b).2=true->bO (wJ a b).1=true:=by
 rw[wJ];split
 ·rename_i h;intro _;simp[Bool.and_eq_true]at h;exact h.2
 ·intro h;cases h
theorem QJ {a b:Int}(ha: -1073741824<=a/\a<=1073741824)(hb:b≠0): -1073741824<=a.fdiv b/\a.fdiv b<=1073741824:=by
 have key: ∀(a b:Int),0<b-> -1073741824<=a->a<=1073741824-> -1073741824<=a.fdiv b/\a.fdiv b<=1073741824:=by
  intro a b hb h1 h2;rw[Int.fdiv_eq_ediv_of_nonneg _ (by omega)];constructor
  ·rw[Int.le_ediv_iff_mul_le hb];have:(-1073741824:Int)*b<= -1073741824*1:=Int.mul_le_mul_of_nonpos_left (by omega) (by omega);omega
  ·have:a / b<1073741825:=by
    rw[Int.ediv_lt_iff_lt_mul hb];have:(1073741825:Int)*1<=1073741825*b:=Int.mul_le_mul_of_nonneg_left (by omega) (by omega);omega
   omega
 rcases Int.lt_or_gt_of_ne hb with h|h
 ·have:=key (-a) (-b) (by omega) (by omega) (by omega);rw[Int.neg_fdiv_neg]at this;exact this
 ·exact key a b (by omega) ha.1 ha.2
theorem QL {a b:Int}(hb: -1073741824<=b/\b<=1073741824)(h0:b≠0): -1073741824<=a.fmod b/\a.fmod b<=1073741824:=by
 rcases Int.lt_or_gt_of_ne h0 with h|h
 ·have h1:=Int.fmod_nonneg_of_pos (-a) (b:= -b) (by omega);have h2:=Int.fmod_lt_of_pos (-a) (b:= -b) (by omega);rw[Int.neg_fmod_neg]at h1 h2;omega
 ·have h1:=Int.fmod_nonneg_of_pos a (b:=b) (by omega);have h2:=Int.fmod_lt_of_pos a (b:=b) (by omega);omega
theorem Lb {a b:Int}:(tV a b).2=true->bO (tV a b).1=true:=by
 rw[tV];split
 ·rename_i h;intro _;simp[bO]at h;have:=QJ (a:=a) (b:=b) (by omega) h.2;simp[bO];omega
 ·intro h;cases h
theorem Lc {a b:Int}:(uj a b).2=true->bO (uj a b).1=true:=by
 rw[uj];split
 ·rename_i h;intro _;simp[bO]at h;have:=QL (a:=a) (b:=b) (by omega) h.2;simp[bO];omega
 ·intro h;cases h
theorem rF {t o:Int}(ht:t<=575999999)(ho:o<=840):rE t o<=400001:=by
 unfold rE;split <;> omega
theorem yM {t:Int}(ht:t<=575999999): ∀(l:List Shift) (best o:Int),(∀s∈l,s.offset<=840/\s.at_<=575999999)->o<=840->0<=best->best<=400001->0<=si t l best o/\si t l best o<=400001
 | [],best,o,_,ho,h0,h1=>by
  have:=rF ht ho;rw[si];omega
 |s :: l,best,o,h,ho,h0,h1=>by
  have hs:=h s (by simp);have h2:=rF ht ho;have h3:=rF (t:=s.at_-1) (o:=o) (by omega) ho;rw[si]
  split
  ·omega
  ·exact yM ht l _ _ (λq hq=>h q (by simp[hq])) hs.1 (by omega) (by omega)
theorem MZ {z:Zone}(hz:aP z=0){t:Int}(ht:t<=575999999):0<=Jl z t/\Jl z t<=400001:=by
 obtain ⟨h1,h2⟩:=Ri hz;exact yM ht z.shifts 0 z.offset (λs hs=>⟨(h2 s hs).2.1,(h2 s hs).2.2.2⟩) (by omega) (by omega) (by omega)
theorem GY (z:Zone)(t:Int):bO (Tn z t).1=true:=by
 rw[Tn]
 split
 ·rfl
 ·rename_i h;have h:yL z t=0:=by omega
  rw[yL]at h
  split at h
  ·omega
  ·split at h
   ·omega
   ·have:=MZ (z:=z) (by omega) (t:=t) (by omega);simp[bO];omega
theorem jh {v:Val}(h:valid v=true):v.ok:=by
 obtain ⟨k,n,s⟩:=v;have e: ∀s:ByteArray,ek s=true->Str s:=by
  intro s hs;rw[ek,List.isEmpty_iff]at hs;have:s.size=s.toList.length:=by rw[ByteArray.toList_eq];rfl
  unfold Str;rw[this,hs];exact Nat.zero_le _
 rw[valid]at h;simp only at h;refine ⟨?_,?_,?_⟩ <;> simp only
 ·unfold eZ;(repeat' split at h) <;> first|omega|(subst_vars;omega)|(cases h)
 ·unfold eZ;(repeat' split at h) <;> simp at h <;> omega
 ·(repeat' split at h) <;> simp at h <;> first|exact e _ h.2|exact e _ h.1|(unfold Str;omega)
theorem IK {v:Val}(h:valid v=true):0<=v.kind/\v.kind<=4:=by
 rw[valid]at h
 (repeat' split at h) <;> first|omega|(cases h)
theorem BB {v:Val}(h:valid v=true)(h0:v.kind=0):v=bG:=by
 obtain ⟨k,n,s⟩:=v;simp only at h0;subst h0;simp[valid,ek]at h;obtain ⟨h1,h2⟩:=h;subst h1;have:s=⟨#[]⟩:=by
  rw[ByteArray.toList_eq]at h2;obtain ⟨⟨l⟩⟩:=s;simp at h2;subst h2;rfl
 subst this;rfl
theorem rz {k:Kd}{v:Val}(hk:iL k)(h:Has k v)(h0:v.kind=0):k.null=true:=by
 rcases h.2 with h1|h1
 ·exact hk.2.2 (by omega)
 ·exact h1.2
theorem oO {k:Kd}{v:Val}(hk:iL k)(h:Has k v){j:Int}(hf:fits k j=true):v.kind=j\/v.kind=0:=by
 simp[fits]at hf;rcases h.2 with h1|h1
 ·omega
 ·exact .inr h1.1
theorem fT {k:Int}{b:Bool}{v:Val}(hv:valid v=true)(h:v.kind=k\/(v.kind=0/\b=true)):Has ⟨k,b⟩ v:=⟨hv,h⟩
theorem oP {k:Kd}(h:k.null=true):Has k bG:=⟨lg,.inr ⟨rfl,h⟩⟩
theorem KS (n:Int)(ok:Bool):(jQ n ok).kind=2\/(jQ n ok).kind=0:=by cases ok <;> simp[jQ,bG]
theorem Cx (n:Int):(sS n).kind=4\/(sS n).kind=0:=by rw[sS];split <;> simp[bG]
theorem wm {x y:Kd}(h:(common x y).2=true):(x.kind=(common x y).1\/x.kind=0)/\(y.kind=(common x y).1\/y.kind=0):=by
 rw[common]at h⊢
 split
 ·rename_i h0;exact ⟨.inr h0,.inl rfl⟩
 ·rename_i h0;rw[if_neg h0]at h;simp[fits]at h;exact ⟨.inl rfl,h⟩
theorem yJ {x y:Kd}(hx:iL x)(hy:iL y):0<=(common x y).1/\(common x y).1<=4:=by
 rw[common];split
 ·exact ⟨hy.1,hy.2.1⟩
 ·exact ⟨hx.1,hx.2.1⟩
theorem wV {x y:Kd}(h:(common x y).2=true)(h0:(common x y).1=0):x.kind=0/\y.kind=0:=by
 have:=wm h;omega
theorem OW {zs:List Zone}{op:Int}{nm:ByteArray}{x:Kd}{v:Val}(hop:op=2\/op=3\/op=16\/op=19\/op=20)(hx:iL x)(hv:Has x v)(h:(qB op x).2=true):
  iL (qB op x).1/\Has (qB op x).1 (Li zs op nm v):=by
 by_cases h0:v.kind=0
 ·have hn:=rz hx hv h0;rcases hop with rfl|rfl|rfl|rfl|rfl
  ·simp[qB,Li,h0,iL];exact oP hn
  ·simp[qB,Li,h0,iL];exact oP hn
  ·simp[qB,Li,h0,iL];exact fT (gG _) (.inl rfl)
  ·simp[qB,Li,h0,iL];exact oP hn
  ·simp[qB,Li,h0,iL];exact oP hn
 ·rcases hop with rfl|rfl|rfl|rfl|rfl
  ·simp[qB,Li,h0,iL];exact fT (gG _) (.inl rfl)
  ·have hk:=(oO hx hv (j:=2) (by simpa[qB] using h)).resolve_right h0;have hs:(mR 0 v.num).2=true:=by
    have h1:=hv.1;rw[valid,if_neg h0,if_neg (by omega),if_pos hk]at h1;simp at h1;rw[mR,if_pos (by simp[bO];omega)]
   simp[qB,Li,h0,iL,hs];exact fT (mV _ _ λ_=>wK hs) (.inl rfl)
  ·simp[qB,Li,h0,iL];exact fT (gG _) (.inl rfl)
  ·have hk:=(oO hx hv (j:=3) (by simpa[qB] using h)).resolve_right h0;have hs:v.str.size<=64:=by
    have h1:=hv.1;rw[valid,if_neg h0,if_neg (by omega),if_neg (by omega),if_pos hk]at h1;simp at h1;exact h1.2
   simp[qB,Li,h0,iL];exact fT (mV _ _ λ_=>by simp[bO];omega) (.inl rfl)
  ·simp[qB,Li,h0,iL];exact fT (mV _ _ λ_=>GY _ _) (.inl rfl)
theorem xq {a b:Val}{s:Int}{x y:Kd}(hx:iL x)(ha:Has x a)(hy:iL y)(hb:Has y b)(fx:fits x 1=true)(fy:fits y 1=true):Has ⟨1,x.null || y.null⟩ (DU a b s):=by
 rw[DU]
 split
 ·exact fT (gG _) (.inl rfl)
 ·split
  ·rename_i h1 h2;refine fT lg (.inr ⟨rfl,?_⟩);have key: ∀{k:Kd} {v:Val},iL k->Has k v->fits k 1=true->truth v<0->k.null=true:=by
    intro k v hk hv hf ht;rcases oO hk hv hf with h3|h3
    ·exfalso;rw[truth,if_pos ⟨h3,hv.1⟩]at ht;have h4:=hv.1;rw[valid,if_neg (by omega),if_pos h3]at h4;simp at h4;omega
    ·exact rz hk hv h3
   rcases h2 with h2|h2
   ·rw[key hx ha fx h2];rfl
   ·rw[key hy hb fy h2];simp
  ·exact fT (gG _) (.inl rfl)
theorem JU {zs:List Zone}{n:Node}{x y:Kd}{a b:Val}(hop:(4<=n.op/\n.op<=15)\/n.op=18)(hx:iL x)(ha:Has x a)(hy:iL y)(hb:Has y b)(h:(aM n.op x y).2=true):
  iL (aM n.op x y).1/\Has (aM n.op x y).1 (uk zs n [a,b]):=by
 obtain ⟨op,v,nm,ar⟩:=n;simp only at hop h⊢;by_cases za:op=14
 ·subst za;simp[aM]at h;simp[aM,uk,iL];exact xq hx ha hy hb h.1 h.2
 by_cases XO:op=15
 ·subst XO;simp[aM]at h;simp[aM,uk,iL];exact xq hx ha hy hb h.1 h.2
 by_cases h18:op=18
 ·subst h18;simp[aM]at h;have hc:=wm h;have hr:=yJ hx hy;have hz:=wV h;simp only[aM,uk];refine ⟨⟨hr.1,hr.2,λh0=>?_⟩,?_⟩
  ·simp only[Int.reduceEq,or_self,if_false,if_true]at h0⊢;have:=hz h0;simp[hx.2.2 this.1,hy.2.2 this.2]
  ·simp only[Int.reduceEq,or_self,if_false,if_true];by_cases ha0:a.kind=0
   ·rw[if_pos ha0];have hxn:=rz hx ha ha0;refine fT hb.1 ?_;rcases hb.2 with h1|h1
    ·rcases hc.2 with h2|h2
     ·exact .inl (by omega)
     ·exact .inr ⟨by omega,by simp[hxn,hy.2.2 h2]⟩
    ·exact .inr ⟨h1.1,by simp[hxn,h1.2]⟩
   ·rw[if_neg ha0];refine fT ha.1 ?_;rcases ha.2 with h1|h1
    ·rcases hc.1 with h2|h2
     ·exact .inl (by omega)
     ·omega
    ·omega
 have hop':4<=op/\op<=13:=by omega
 have hko:iL (aM op x y).1:=by
  have h4:op=4\/op=5\/op=6\/op=7\/op=8\/op=9\/op=10\/op=11\/op=12\/op=13:=by omega
  rcases h4 with rfl|rfl|rfl|rfl|rfl|rfl|rfl|rfl|rfl|rfl <;> simp[aM] <;> (repeat' split) <;> simp[iL]
 refine ⟨hko,?_⟩;simp only[uk];rw[if_neg za,if_neg XO,if_neg h18];by_cases h0:a.kind=0\/b.kind=0
 ·rw[if_pos h0];refine oP ?_;have hn:x.null=true\/y.null=true:=by
   rcases h0 with h0|h0
   ·exact .inl (rz hx ha h0)
   ·exact .inr (rz hy hb h0)
  have hn':(x.null || y.null)=true:=by simpa using hn
  have h4:op=4\/op=5\/op=6\/op=7\/op=8\/op=9\/op=10\/op=11\/op=12\/op=13:=by omega
  rcases h4 with rfl|rfl|rfl|rfl|rfl|rfl|rfl|rfl|rfl|rfl <;> simp[aM] <;> (repeat' split) <;> first|exact hn'|rfl|(simp;done)|simpa using hn
 ·rw[if_neg h0];have ha0:a.kind≠0:=λq=>h0 (.inl q);have hb0:b.kind≠0:=λq=>h0 (.inr q);have hax:a.kind=x.kind:=ha.2.resolve_right λq=>ha0 q.1;have hby:b.kind=y.kind:=hb.2.resolve_right λq=>hb0 q.1;have num: ∀n ok,(ok=true->bO n=true)->Has ⟨2,true⟩ (jQ n ok):=λn ok hh=>fT (mV n ok hh) ((KS n ok).elim .inl λq=>.inr ⟨q,rfl⟩);have h4:op=4\/op=5\/op=6\/op=7\/op=8\/op=9\/op=10\/op=11\/op=12\/op=13:=by omega
  rcases h4 with rfl|rfl|rfl|rfl|rfl|rfl|rfl|rfl|rfl|rfl
  ·simp only[aM,dX,jy,Int.reduceEq,or_self,if_false,if_true];by_cases hx4:x.kind=4
   ·rw[if_pos hx4,if_pos (by omega)];exact fT (Ah _) ((Cx _).elim .inl λq=>.inr ⟨q,rfl⟩)
   ·rw[if_neg hx4,if_neg (by omega)];exact num _ _ La
  ·simp only[aM,dX,jy,Int.reduceEq,or_self,if_false,if_true]at h⊢;by_cases hy4:y.kind=4
   ·rw[if_pos hy4]at h⊢;have hx4:a.kind=4:=(oO hx ha h).resolve_right ha0;rw[if_neg (by omega)];have va:=ha.1;have vb:=hb.1;rw[valid,if_neg ha0,if_neg (by omega),if_neg (by omega),if_neg (by omega),if_pos hx4]at va;rw[valid,if_neg hb0,if_neg (by omega),if_neg (by omega),if_neg (by omega),if_pos (by omega)]at vb;simp at va vb;have hs:(mR a.num b.num).2=true:=by rw[mR,if_pos (by simp[bO];omega)]
    rw[hs];exact fT (mV _ _ λ_=>wK hs) (.inl rfl)
   ·rw[if_neg hy4]at h⊢;by_cases hx4:x.kind=4
    ·rw[if_pos hx4]at h⊢;have hb2:b.kind=2:=(oO hy hb h).resolve_right hb0;rw[if_pos ⟨by omega,hb2⟩];exact fT (Ah _) ((Cx _).elim .inl λq=>.inr ⟨q,rfl⟩)
    ·rw[if_neg hx4]at h⊢;rw[if_neg (by omega)];exact num _ _ wK
  ·simp only[aM,dX,jy,Int.reduceEq,or_self,or_false,false_or,or_true,true_or,if_false,if_true];exact num _ _ Ld
  ·simp only[aM,dX,jy,Int.reduceEq,or_self,or_false,false_or,or_true,true_or,if_false,if_true];exact num _ _ Lb
  ·simp only[aM,dX,jy,Int.reduceEq,or_self,or_false,false_or,or_true,true_or,if_false,if_true];exact num _ _ Lc
  ·simp only[aM,dX,Int.reduceEq,or_self,if_false,if_true]
   split
   ·exact oP rfl
   ·rename_i hs;exact fT (by simp[valid];simpa using hs) (.inl rfl)
  ·simp only[aM,dX,Int.reduceEq,or_self,if_false,if_true];exact fT (gG _) (.inl rfl)
  ·simp only[aM,dX,Int.reduceEq,or_self,if_false,if_true];exact fT (gG _) (.inl rfl)
  ·simp only[aM,dX,Int.reduceEq,or_self,if_false,if_true];exact fT (gG _) (.inl rfl)
  ·simp only[aM,dX,Int.reduceEq,or_self,if_false,if_true];exact fT (gG _) (.inl rfl)
theorem NP {zs:List Zone}{n:Node}{y z:Kd}{a b c:Val}{m:List Val}(hy:iL y)(hb:Has y b)(hz:iL z)(hc:Has z c)(h:(common y z).2=true):
  iL ⟨(common y z).1,y.null || z.null⟩/\Has ⟨(common y z).1,y.null || z.null⟩ (uk zs n (a :: b :: c :: m)):=by
 have hcm:=wm h;have hr:=yJ hy hz;have h0:=wV h;refine ⟨⟨hr.1,hr.2,λq=>?_⟩,?_⟩
 ·have:=h0 q;simp[hy.2.2 this.1]
 ·have one: ∀{k:Kd} {v:Val},iL k->Has k v->(k.kind=(common y z).1\/k.kind=0)->(k.null=true->(y.null || z.null)=true)->Has ⟨(common y z).1,y.null || z.null⟩ v:=by
   intro k v hk hv hcm hn;refine fT hv.1 ?_;rcases hv.2 with h1|h1
   ·rcases hcm with h2|h2
    ·exact .inl (by omega)
    ·exact .inr ⟨by omega,hn (hk.2.2 h2)⟩
   ·exact .inr ⟨h1.1,hn h1.2⟩
  simp only[uk]
  split
  ·exact one hy hb hcm.1 (λq=>by simp[q])
  ·exact one hz hc hcm.2 (λq=>by simp[q])
theorem In.part {w:World}{A:Option Addr}{n c k:Nat}{xs:List Partn}(h:In w A n c xs)(hk:k<n): ∃b off x,A=some ⟨b,off,none⟩/\b<w.heap.size/\Hid (xs.drop k=x :: xs.drop (k+1))/\
  ∃A' n' c',w.cell? ⟨b,off+k*2,none⟩=some (.int .i64 x.day)/\w.cell? ⟨b,off+k*2+1,none⟩=some (.slice A' n' c')/\In w A' n' c' x.rows/\eZ x.day:=by
 obtain ⟨b,off,x,e,hb,hx,cs,⟨A',n',c',rfl,hs,hv⟩,hc⟩:=h.get hk;exact ⟨b,off,x,e,hb,hx,A',n',c',hc 0 (by simp),hc 1 (by simp),hs,hv⟩
def Jy (xs:List Ent):Int×List Ent:=if ai (λ_ x=>aV x) 0 xs≠0 then (ai (λ_ x=>aV x) 0 xs,[]) else pU xs
def xA (at_:Int)(z:Zone)(rows:List Ent)(d:Int):List Ent:=rows.filter λx=>qY at_ z x.row != d
def JN (at_:Int)(z:Zone)(old new:List Ent)(ds:List Int):Prop:=
 Asc ds/\ ∀d,d∈ds↔nJ at_ z old d≠nJ at_ z new d
theorem sW {b:List Ent}(h:aL b=0)(p:Ent->Bool):aL (b.filter p)=0:=by
 obtain ⟨h1,h2,h3⟩:=iN.1 h;exact iN.2 ⟨Nat.le_trans (List.length_filter_le _ _) h1,λx hx=>h2 x (List.mem_filter.1 hx).1,h3.filter p⟩
theorem Qn {xs:List Ent}:ai (λ_ x=>aV x) 0 xs=0↔ ∀x∈xs,aV x=0:=by
 rw[uQ];constructor
 ·intro h x hx;obtain ⟨j,hj⟩:=List.mem_iff_getElem?.1 hx;exact h j x hj
 ·intro h j x hx;exact h x (List.mem_iff_getElem?.2 ⟨j,hx⟩)
theorem zJ {xs:List Ent}(h: ∀x∈xs,aV x=0):Jy xs=pU xs:=by
 rw[Jy,if_neg (by rw[Qn.2 h];simp)]
theorem yF {b:List Ent}(h:aL b=0): ∀x∈b,aV x=0:=λx hx=>((iN.1 h).2.1 x hx).1
theorem nU {p:Ent->Bool}{l:List Ent}{r:List Val}(h: ∀x∈l,x.row=r->p x=true):cnt (l.filter p) r=cnt l r:=by
 induction l with
 |nil=>rfl
 |cons x l ih=>
  have ih:=ih λy hy=>h y (by simp[hy]);by_cases q:p x=true
  ·rw[List.filter_cons_of_pos q,cnt,cnt,ih]
  ·rw[List.filter_cons_of_neg q,cnt,ih,if_neg]
   ·omega
   ·intro e;exact q (h x (by simp) (dn.1 e))
theorem nT {p:Ent->Bool}{l:List Ent}{r:List Val}(h: ∀x∈l,x.row=r->p x=false):cnt (l.filter p) r=0:=by
 refine iy λx hx e=>?_;obtain ⟨h1,h2⟩:=List.mem_filter.1 hx;rw[h x h1 (dn.1 e)]at h2;cases h2
theorem J7 {at_:Int}{z:Zone}{l:List Ent}{d:Int}{r:List Val}:cnt (xA at_ z l d) r=if qY at_ z r=d then 0 else cnt l r:=by
 split
 ·rename_i h;exact nT λx _ e=>by rw[e,h];simp
 ·rename_i h;exact nU λx _ e=>by rw[e];simpa using h
theorem wh {at_:Int}{z:Zone}{l:List Ent}{d:Int}{r:List Val}:cnt (nJ at_ z l d) r=if qY at_ z r=d then cnt l r else 0:=by
 split
 ·rename_i h;exact nU λx _ e=>by rw[e];simpa using h
 ·rename_i h;exact nT λx _ e=>by rw[e];simpa using h
structure Mixed (at_:Int) (z:Zone) (old new now:List Ent) (done:List Int):Prop where
 bag:aL now=0
 cnt: ∀r,cnt now r=if qY at_ z r∈done then cnt new r else cnt old r
theorem Mixed.start {at_:Int}{z:Zone}{old new:List Ent}(h:aL old=0):Mixed at_ z old new old []:=⟨h,λr=>by simp⟩
theorem xX {b:List Ent}(h:aL b=0):Ux b:=λx hx=>((iN.1 h).2.1 x hx).2
theorem j6 {b:List Ent}(h:aL b=0):jC b:=(iN.1 h).2.2
theorem P5 {a b:List Ent}(h:aL a=0)(h':aL b=0)(hc: ∀r,Proofs.YtopjjlmfilgngaaGreatDoor.cnt a r=Proofs.YtopjjlmfilgngaaGreatDoor.cnt b r):a=b:=Je (j6 h) (j6 h') (xX h) (xX h') hc
theorem DV {b:List Ent}(h:aL b=0){r:List Val}:Proofs.YtopjjlmfilgngaaGreatDoor.cnt b r≠0↔ ∃x∈b,x.row=r:=by
 constructor
 ·intro q;by_cases g: ∃x∈b,x.row=r
  ·exact g
  ·exact absurd (iy λx hx e=>g ⟨x,hx,dn.1 e⟩) q
 ·rintro ⟨x,hx,rfl⟩;rw[(j6 h).mem hx];exact xX h x hx
theorem KT {at_:Int}{z:Zone}{a b:List Ent}(h:aL a=0)(h':aL b=0){d:Int}(hc: ∀r,qY at_ z r=d->Proofs.YtopjjlmfilgngaaGreatDoor.cnt a r=Proofs.YtopjjlmfilgngaaGreatDoor.cnt b r):nJ at_ z a d=nJ at_ z b d:=
 P5 (sW h _) (sW h' _) λr=>by
  show Proofs.YtopjjlmfilgngaaGreatDoor.cnt (nJ at_ z a d) r=Proofs.YtopjjlmfilgngaaGreatDoor.cnt (nJ at_ z b d) r;rw[wh,wh]
  split
  ·rename_i q;exact hc r q
  ·rfl
theorem Mixed.ne {at_:Int}{z:Zone}{old new now:List Ent}{ds done l:List Int}{d:Int}(h:Mixed at_ z old new now done)(ho:aL old=0)(hn:aL new=0)(hc:JN at_ z old new ds)(e:ds=done++d :: l):now≠new:=by
 rintro rfl;have h1:=(hc.2 d).1 (by rw[e];simp);apply h1;refine KT ho hn λr hr=>?_;have h2:=h.cnt r;rw[if_neg]at h2
 ·exact h2.symm
 ·rw[hr];intro q;have:=hc.1;rw[e]at this;have:=(List.pairwise_append.1 this).2.2 d q d (by simp);omega
theorem DK {b:List Ent}(h:jC b)(hz:Ux b){l:List Ent}(hl: ∀r,Proofs.YtopjjlmfilgngaaGreatDoor.cnt b r≠0-> ∃x∈l,x.row=r):b.length<=l.length:=by
 have hnd:(b.map Ent.row).Nodup:=by
  rw[List.nodup_iff_pairwise_ne,List.pairwise_map];refine h.imp λ{x y} q e=>?_;rw[e,dn.2 rfl]at q;omega
 have hsub: ∀r∈b.map Ent.row,r∈l.map Ent.row:=λr hr=>by
  obtain ⟨x,hx,rfl⟩:=List.mem_map.1 hr;obtain ⟨y,hy,e⟩:=hl x.row (by rw[h.mem hx];exact hz x hx);exact List.mem_map.2 ⟨y,hy,e⟩
 have:=hnd.length_le_of_subset hsub;simpa using this
theorem Mixed.rows {at_:Int}{z:Zone}{old new now:List Ent}{done:List Int}(h:Mixed at_ z old new now done): ∀x∈now,∃y∈old++new,y.row=x.row:=λx hx=>by
 have h1:=(DV h.bag (r:=x.row)).2 ⟨x,hx,rfl⟩;by_cases g: ∃y∈old++new,y.row=x.row
 ·exact g
 ·exfalso;rw[h.cnt]at h1;apply h1
  split
  ·exact iy λy hy e=>g ⟨y,by simp[hy],dn.1 e⟩
  ·exact iy λy hy e=>g ⟨y,by simp[hy],dn.1 e⟩
theorem Mixed.len {at_:Int}{z:Zone}{old new now:List Ent}{done:List Int}(h:Mixed at_ z old new now done):now.length<=(old++new).length:=
 DK (j6 h.bag) (xX h.bag) λr hr=>by
  obtain ⟨x,hx,rfl⟩:=(DV h.bag).1 hr;exact h.rows x hx
theorem Mixed.step {at_:Int}{z:Zone}{old new now:List Ent}{done:List Int}{d:Int}(h:Mixed at_ z old new now done)(ho:aL old=0)(hn:aL new=0)(hl:(old++new).length<=4096):
  ∃nx,pU (xA at_ z now d++nJ at_ z new d)=(0,nx)/\Mixed at_ z old new nx (done++[d]):=by
 have hc: ∀r,Proofs.YtopjjlmfilgngaaGreatDoor.cnt (xA at_ z now d++nJ at_ z new d) r=if qY at_ z r∈done++[d] then Proofs.YtopjjlmfilgngaaGreatDoor.cnt new r else Proofs.YtopjjlmfilgngaaGreatDoor.cnt old r:=λr=>by
  rw[uN,J7,wh,h.cnt];by_cases q:qY at_ z r=d
  ·simp[q]
  ·simp[q]
 have hok: ∀x∈xA at_ z now d++nJ at_ z new d,aV x=0:=λx hx=>by
  rcases List.mem_append.1 hx with hx|hx
  ·exact yF h.bag x (List.mem_filter.1 hx).1
  ·exact yF hn x (List.mem_filter.1 hx).1
 have NI:dH 0 (dJ (dQ (xA at_ z now d++nJ at_ z new d)))=false:=by
  refine (uo _ 0 (mf _) (by omega)).2 ⟨λx hx=>?_,?_⟩
  ·have h1:=(sD (sH _)).mem hx;rw[oV,pu,hc]at h1;have hx0:=mf _ x hx;have: ∀b:List Ent,aL b=0->Proofs.YtopjjlmfilgngaaGreatDoor.cnt b x.row=x.count-> -65536<=x.count/\x.count<=65536:=λb hb e=>by
    obtain ⟨y,hy,e2⟩:=(DV hb (r:=x.row)).1 (by rw[e];exact hx0);have:=(j6 hb).mem hy;rw[e2,e]at this;have:=Qm (yF hb y hy);omega
   split at h1
   ·exact this new hn h1
   ·exact this old ho h1
  ·have:(dJ (dQ (xA at_ z now d++nJ at_ z new d))).length<=(old++new).length:=
    DK (sD (sH _)) (mf _) λr hr=>by
     rw[oV,pu,hc]at hr;by_cases g: ∃y∈old++new,y.row=r
     ·exact g
     ·exfalso;apply hr
      split
      ·exact iy λy hy e=>g ⟨y,by simp[hy],dn.1 e⟩
      ·exact iy λy hy e=>g ⟨y,by simp[hy],dn.1 e⟩
   omega
 rw[rO]at NI;have hb:pU (xA at_ z now d++nJ at_ z new d)=(0,dJ (dQ (xA at_ z now d++nJ at_ z new d))):=by rw[pU,NI];simp
 have h1:=Dh hok;rw[hb]at h1;exact ⟨_,hb,h1,λr=>by rw[oV,pu,hc]⟩
end Go.Proofs.YtopjjlmfilgngaaGreatDoor
