/-
  zone.Validate and warehouseref4.Validate: both return zoneErr. warehouseref4.offset and local. Plain functions of chapter 22: schemes, days of rows, partitions, as both texts compute them. No program is in sight. Plain law: the value of a well-typed expression fits its type; what each operator's operands then are. No program is in sight. Plain law of chapter 22: Pick, Replace, Changed and the sums of bags. No program is in sight. Cells of partitions in a slice. No program is in sight.
-/
import Derived.Test.YtopjjlmfilgngaaGreatDoorProg
import Derived.Test.YtopjjlmfilgngaaGreatDoorGac
import Derived.Test.YtopjjlmfilgngaaGreatDoorGaa
import Derived.Test.YtopjjlmfilgngaaGreatDoorGad
namespace Go.Proofs.YtopjjlmfilgngaaGreatDoor
set_option maxHeartbeats 2000000
set_option maxRecDepth 100000
open Go.RowKit
set_option linter.unusedSimpArgs false
set_option linter.unusedVariables false
theorem eO (m:Int)(w:World):Calls Tryz.prog 254 #[.int .i64 m] w λe w'=>e=.returned (.bool (lD m))/\w=w':=by
 go_enter Tryz.func254,Tryz.ntmps254;go_wp2;all_goals (go_ret;refine ⟨ay ?_,rfl⟩;go_light;unfold lD;first|(simp_all;done)|(simp_all;omega))
theorem In.shift {w:World}{A:Option Addr}{n c k:Nat}{xs:List Shift}(h:In w A n c xs)(hk:k<n): ∃b off x,A=some ⟨b,off,none⟩/\b<w.heap.size/\Hid (xs.drop k=x :: xs.drop (k+1))/\
  w.cell? ⟨b,off+k*2,none⟩=some (.int .i64 x.at_)/\w.cell? ⟨b,off+k*2+1,none⟩=some (.int .i64 x.offset)/\dH x.at_/\dH x.offset:=by
 obtain ⟨b,off,x,e,hb,hx,cs,⟨rfl,hv⟩,hc⟩:=h.get hk;exact ⟨b,off,x,e,hb,hx,hc 0 (by simp[Shift.cells]),hc 1 (by simp[Shift.cells]),hv⟩
theorem lC {l r:List Shift}{k:Nat}{x:Shift}(h:dR l k x=0):aU l k (x :: r)=aU l (k+1) r:=by simp[aU,h]
theorem gL {l r:List Shift}{k:Nat}{x:Shift}{e:Int}(h:dR l k x=e)(he:e≠0):aU l k (x :: r)=e:=by simp[aU,h,he]
theorem GA (w:World)(A:Option Addr)(n c:Nat)(z:Zone)(hx:In w A n c z.shifts)(ho:dH z.offset):
  Calls Tryz.prog 234 #[.agg #[.string z.name,.int .i64 z.offset,.slice A n c]] w λe w'=>e=.returned (.int .i64 (bg z))/\Below w.heap.size w w':=by
 obtain ⟨nm,ve,xs⟩:=z;simp only at hx ho⊢;have h63:=hx.le;have hlen:=hide hx.len;by_cases h1:64<n
 ·have he:Hid (2=bg ⟨nm,ve,xs⟩):=hide (by simp only[bg];rw[hlen.out,if_pos h1]);go_enter Tryz.func234,Tryz.ntmps234;go_wp2;all_goals (go_ret;exact ⟨ai he.out,ae⟩)
 cases h2:lD ve
 ·have he:Hid (1=bg ⟨nm,ve,xs⟩):=hide (by simp only[bg];rw[hlen.out,if_neg h1,if_pos h2]);go_enter Tryz.func234,Tryz.ntmps234;go_wp2_with (go_at_call 254;refine (eO _ _).mono ?_;rintro e w' ⟨rfl,rfl⟩);all_goals (go_ret;exact ⟨ai he.out,ae⟩)
 have lF:Hid (bg ⟨nm,ve,xs⟩=aU xs 0 xs):=hide (by simp only[bg];rw[hlen.out,if_neg h1,if_neg (by simp[h2])]);go_enter Tryz.func234,Tryz.ntmps234;go_wp2_with (go_at_call 254;refine (eO _ _).mono ?_;rintro e w' ⟨rfl,rfl⟩);go_loopw [16] (λi wr=> ∃k:Nat,k<=n/\i=.int .i64 k/\aU xs 0 xs=aU xs k (xs.drop k)/\Below (w.alloc (.cells #[.string nm,.int .i64 ve,.slice A n c] 166)).heap.size (w.alloc (.cells #[.string nm,.int .i64 ve,.slice A n c] 166)) wr) (λi _=>n-(intOf i).toNat)
 case atStart=>exact ⟨0,Nat.zero_le _,rfl,rfl,Below.refl _ _⟩
 case round=>
  obtain ⟨k,hk,rfl,heq,hb0⟩:=hrel;have HE:=hide heq;clear heq;have hb:Below w.heap.size w wr:=aa ae hb0;have g0:wr.cell? ⟨w.heap.size,2,none⟩=some (.slice A n c):=aj hb0 (by simp) (by simp[go_sem]);have hsz:w.heap.size<wr.heap.size:=by have:=hb0.size;simp at this;omega
  have HB0:=hide hb0;clear hb0;by_cases hlt:k<n
  ·obtain ⟨b,off,x,rfl,hB,HX,f0,f1,f2,f3⟩:=(hx.below hb).shift hlt;have f2':=f2;have f3':=f3;unfold dH at f2 f3;by_cases c1:x.at_<1
   ·have he:Hid (1=bg ⟨nm,ve,xs⟩):=hide (by rw[lF.out,HE.out,HX.out];exact (gL (by simp[dR,c1]) (by omega)).symm);go_wp2_with (go_at_call 254;refine (eO _ _).mono ?_;rintro e w' ⟨rfl,rfl⟩);all_goals (try (exfalso;go_light;simp_all;done));all_goals (go_ret;exact ⟨ai he.out,aa hb ae⟩)
   by_cases c2:575999999<x.at_
   ·have he:Hid (1=bg ⟨nm,ve,xs⟩):=hide (by rw[lF.out,HE.out,HX.out];exact (gL (by simp[dR,c2]) (by omega)).symm);go_wp2_with (go_at_call 254;refine (eO _ _).mono ?_;rintro e w' ⟨rfl,rfl⟩);all_goals (try (exfalso;go_light;simp_all;done));all_goals (go_ret;exact ⟨ai he.out,aa hb ae⟩)
   cases c3:lD x.offset
   ·have he:Hid (1=bg ⟨nm,ve,xs⟩):=hide (by rw[lF.out,HE.out,HX.out];exact (gL (by simp[dR,c3]) (by omega)).symm);go_wp2_with (go_at_call 254;refine (eO _ _).mono ?_;rintro e w' ⟨rfl,rfl⟩);all_goals (try (exfalso;go_light;simp_all;done));all_goals (go_ret;exact ⟨ai he.out,aa hb ae⟩)
   have k0:(0:Int)<=(k:Int):=by omega
   have k1:(k:Int)<(n:Int):=by omega
   have hbk:=aa HB0.out (ae (o:=.cells #[.int .i64 x.at_,.int .i64 x.offset] 187));have Mc:=hide hbk;have hbb:=aa hb (ae (o:=.cells #[.int .i64 x.at_,.int .i64 x.offset] 187));clear hbk;by_cases hk0:k=0
   ·have HR:Hid (aU xs 0 xs=aU xs (k+1) (xs.drop (k+1))):=hide (by rw[HE.out,HX.out];exact lC (by simp[dR,c1,c2,c3,hk0]));have q0:decide (0<k)=false:=by simp;omega
    have Qn:=hide hk0;clear hk0;go_wp2_with (go_at_call 254;refine (eO _ _).mono ?_;rintro e w' ⟨rfl,rfl⟩);all_goals (try (exfalso;go_light;simp_all;done));go_quiet (fail);go_wp2;go_roundw
    case rel=>exact ⟨k+1,by omega,by go_num,HR.out,by first|exact Mc.out|exact below_drewN Mc.out _⟩
    case measure=>simp[intOf];omega
   ·obtain ⟨b',off',y,e,hB',HY,y0,y1,y2,y3⟩:=(hx.below hbb).shift (show k-1<n by omega);injection e with e;injection e with e_1 e_2;subst e_1 e_2;have HP:=hide (bE HY.out).1;have q0:decide (0<k)=true:=by simp;omega
    have i1:(0:Int)<=(k:Int)-1:=by omega
    have i2:(k:Int)-1<(n:Int):=by omega
    have i3:((k:Int)-1).toNat=k-1:=by omega
    have i5:(1:Int)<=(k:Int):=by omega
    have i6:(k:Int)<=(n:Int):=by omega
    have i4:IntKind.i64.wrap ((k:Int)-1)=(k:Int)-1:=IntWalk.i64_in _ (by omega);have P0:Hid (0<k):=hide (by omega);clear hk0;by_cases c4:x.at_<=y.at_
    ·have he:Hid (14=bg ⟨nm,ve,xs⟩):=hide (by rw[lF.out,HE.out,HX.out];exact (gL (by simp[dR,c1,c2,c3,P0.out,HP.out,c4]) (by omega)).symm);go_wp2_with (go_at_call 254;refine (eO _ _).mono ?_;rintro e w' ⟨rfl,rfl⟩);all_goals (try (exfalso;go_light;simp_all;done));go_quiet (fail);go_wp2;go_ret;exact ⟨ai he.out,by first|exact hbb|exact below_drewN hbb _⟩
    ·have HR:Hid (aU xs 0 xs=aU xs (k+1) (xs.drop (k+1))):=hide (by rw[HE.out,HX.out];exact lC (by simp[dR,c1,c2,c3,HP.out,c4]));go_wp2_with (go_at_call 254;refine (eO _ _).mono ?_;rintro e w' ⟨rfl,rfl⟩);all_goals (try (exfalso;go_light;simp_all;done));go_quiet (fail);go_wp2;go_roundw
     case rel=>exact ⟨k+1,by omega,by go_num,HR.out,by first|exact Mc.out|exact below_drewN Mc.out _⟩
     case measure=>simp[intOf];omega
  ·go_wp2;go_ret;exact ⟨ai (by rw[lF.out,HE.out,aD hx.len (by omega),aU]),hb⟩
theorem DK {l:List Shift}{k:Nat}(h:aU l k (l.drop k)=0): ∀s∈l.drop k, -840<=s.offset/\s.offset<=840/\1<=s.at_/\s.at_<=575999999:=by
 have key: ∀(r:List Shift) (k:Nat),aU l k r=0-> ∀s∈r, -840<=s.offset/\s.offset<=840/\1<=s.at_/\s.at_<=575999999:=by
  intro r
  induction r with
  |nil=>intro k _ s hs;cases hs
  |cons x r ih=>
   intro k h s hs;rw[aU]at h
   split at h
   ·contradiction
   ·rename_i h0;have h0:dR l k x=0:=by omega
    rcases List.mem_cons.1 hs with rfl|hs
    ·rw[dR]at h0
     split at h0
     ·omega
     ·rename_i hn;have h3:lD s.offset=true:=by
       cases hq:lD s.offset
       ·exact absurd (.inr (.inr hq)) hn
       ·rfl
      simp[lD]at h3;have h1:¬s.at_<1:=λq=>hn (.inl q);have h2:¬575999999<s.at_:=λq=>hn (.inr (.inl q));omega
    ·exact ih (k+1) h s hs
 exact key _ k h
theorem JM {z:Zone}(hz:bg z=0):(-840<=z.offset/\z.offset<=840)/\ ∀s∈z.shifts, -840<=s.offset/\s.offset<=840/\1<=s.at_/\s.at_<=575999999:=by
 rw[bg]at hz
 split at hz
 ·omega
 ·split at hz
  ·omega
  ·rename_i h1 h2;refine ⟨?_,DK (k:=0) hz⟩;have h3:lD z.offset=true:=by
    cases hq:lD z.offset
    ·exact absurd hq h2
    ·rfl
   simpa[lD] using h3
structure Partn where
 day:Int
 rows:List Ent
instance:Inhabited Partn:=⟨⟨0,[]⟩⟩
instance:Rep Partn where
 size:=2
 rd w S cs x:= ∃A n c,cs=[.int .i64 x.day,.slice A n c]/\Sl w S A n c x.rows/\dH x.day
 len h:=by obtain ⟨A,n,c,rfl,_⟩:=h;rfl
 keep hs h:=by obtain ⟨A,n,c,rfl,h,hc⟩:=h;exact ⟨A,n,c,rfl,h.keep hs,hc⟩
 mono hs h:=by obtain ⟨A,n,c,rfl,h,hc⟩:=h;exact ⟨A,n,c,rfl,h.mono hs,hc⟩
def Lf (z:Zone)(v:Val):Int:=
 if v.kind=4 then (if sK z v.num=0 then Cg z v.num else -1) else if v.kind=2/\0<=v.num/\v.num<=400000 then v.num else -1
def lV (at_:Int)(z:Zone)(row:List Val):Int:=if at_<0 then -1 else Lf z (row.getD at_.toNat default)
def jH (at_:Int)(z:Zone)(rows:List Ent)(d:Int):List Ent:=rows.filter λx=>lV at_ z x.row==d
def Asc (l:List Int):Prop:=l.Pairwise (· < ·)
def ic (last:Int):List Int->Int->Int
 | [],m=>m
 |x :: l,m=>ic last l (if last<x/\x<m then x else m)
theorem jD (last:Int): ∀(l:List Int) (m:Int),ic last l m<=m/\(ic last l m=m\/(ic last l m∈l/\last<ic last l m))/\ ∀x∈l,last<x->ic last l m<=x
 | [],m=>⟨Int.le_refl _,.inl rfl,λx hx=>by cases hx⟩
 |y :: l,m=>by
  rw[ic];by_cases h:last<y/\y<m
  ·rw[if_pos h];obtain ⟨a,b,c⟩:=jD last l y;refine ⟨by omega,?_,λx hx hl=>?_⟩
   ·rcases b with b|b
    ·exact .inr ⟨by rw[b];simp,by omega⟩
    ·exact .inr ⟨List.mem_cons_of_mem _ b.1,b.2⟩
   ·rcases List.mem_cons.1 hx with rfl|hx
    ·exact a
    ·exact c x hx hl
  ·rw[if_neg h];obtain ⟨a,b,c⟩:=jD last l m;refine ⟨a,?_,λx hx hl=>?_⟩
   ·rcases b with b|b
    ·exact .inl b
    ·exact .inr ⟨List.mem_cons_of_mem _ b.1,b.2⟩
   ·rcases List.mem_cons.1 hx with rfl|hx
    ·omega
    ·exact c x hx hl
def Ai (l ks:List Int)(last:Int):Prop:=Asc ks/\ ∀d,d∈ks↔d∈l/\d<=last
theorem Ai.start {l:List Int}(h: ∀d∈l, -1<=d):Ai l [] (-2):=⟨List.Pairwise.nil,λd=>⟨(λh=>by cases h),(λ⟨h1,h2⟩=>by have:=h d h1;omega)⟩⟩
theorem Ai.done {l ks:List Int}{last:Int}(h:Ai l ks last)(hm: ∀d∈l,d<=400000)(he:ic last l 400001=400001):Asc ks/\ ∀d,d∈ks↔d∈l:=by
 refine ⟨h.1,λd=>⟨λhd=>((h.2 d).1 hd).1,λhd=>(h.2 d).2 ⟨hd,?_⟩⟩⟩;have h1:=hm d hd;by_cases q:d<=last
 ·exact q
 ·have:=(jD last l 400001).2.2 d hd (by omega);omega
theorem Ai.step {l ks:List Int}{last:Int}(h:Ai l ks last)(he:ic last l 400001≠400001):Ai l (ks++[ic last l 400001]) (ic last l 400001)/\last<ic last l 400001/\ic last l 400001∈l:=by
 obtain ⟨a,b,c⟩:=jD last l 400001;obtain ⟨b1,b2⟩:=b.resolve_left he;refine ⟨⟨?_,λd=>?_⟩,b2,b1⟩
 ·rw[Asc,List.pairwise_append];refine ⟨h.1,List.pairwise_singleton _ _,λx hx y hy=>?_⟩;simp at hy;have:=((h.2 x).1 hx).2;omega
 ·rw[List.mem_append,h.2 d];simp only[List.mem_singleton];constructor
  ·rintro (⟨h1,h2⟩|rfl)
   ·exact ⟨h1,by omega⟩
   ·exact ⟨b1,Int.le_refl _⟩
  ·rintro ⟨h1,h2⟩;by_cases q:d<=last
   ·exact .inl ⟨h1,q⟩
   ·have:=c d h1 (by omega);exact .inr (by omega)
def Has (k:Kd)(v:Val):Prop:=valid v=true/\(v.kind=k.kind\/(v.kind=0/\k.null=true))
def ek (k:Kd):Prop:=0<=k.kind/\k.kind<=4/\(k.kind=0->k.null=true)
def iL:List Kd->List Val->Prop
 | [],[]=>True
 |k :: ks,v :: vs=>(ek k/\Has k v)/\iL ks vs
 | _,_=>False
theorem iL.len: ∀{ks:List Kd} {vs:List Val},iL ks vs->ks.length=vs.length
 | [],[],_=>rfl
 | _ :: _,_ :: _,h=>by rw[List.length_cons,List.length_cons,iL.len h.2]
 | [],_ :: _,h=>h.elim
 | _ :: _,[],h=>h.elim
theorem iL.take: ∀{ks:List Kd} {vs:List Val} (n:Nat),iL ks vs->iL (ks.take n) (vs.take n)
 | [],[],_,_=>by simp[iL]
 | _ :: _,_ :: _,0,_=>trivial
 | _ :: _,_ :: _,n+1,h=>⟨h.1,iL.take n h.2⟩
 | [],_ :: _,_,h=>h.elim
 | _ :: _,[],_,h=>h.elim
theorem iL.drop: ∀{ks:List Kd} {vs:List Val} (n:Nat),iL ks vs->iL (ks.drop n) (vs.drop n)
 | [],[],_,_=>by simp[iL]
 | _ :: _,_ :: _,0,h=>h
 | _ :: _,_ :: _,n+1,h=>iL.drop n h.2
 | [],_ :: _,_,h=>h.elim
 | _ :: _,[],_,h=>h.elim
theorem iL.push {k:Kd}{v:Val}(hk:ek k/\Has k v): ∀{ks:List Kd} {vs:List Val},iL ks vs->iL (ks++[k]) (vs++[v])
 | [],[],_=>⟨hk,trivial⟩
 | _ :: _,_ :: _,h=>⟨h.1,iL.push hk h.2⟩
 | [],_ :: _,h=>h.elim
 | _ :: _,[],h=>h.elim
theorem iL.valid: ∀{ks:List Kd} {vs:List Val},iL ks vs-> ∀v∈vs,valid v=true
 | [],[],_,_,h=>by cases h
 |k :: ks,x :: vs,h,v,hv=>by
  rcases List.mem_cons.1 hv with rfl|hv
  ·exact h.1.2.1
  ·exact iL.valid h.2 v hv
 | [],_ :: _,h,_,_=>h.elim
 | _ :: _,[],h,_,_=>h.elim
theorem wW:(⟨#[]⟩:ByteArray).toList=[]:=by rw[ByteArray.toList_eq]
theorem jG:dx ⟨#[]⟩=true:=by rw[dx,wW];rfl
theorem iB:valid bH=true:=by simp[valid,bH,jG]
theorem dA (b:Bool):valid (gI b)=true:=by cases b <;> simp[valid,gI,jG]
theorem jo (n:Int)(ok:Bool)(h:ok=true->aV n=true):valid (pO n ok)=true:=by
 cases ok
 ·exact iB
 ·have:=h rfl;simp[aV]at this;simp[pO,valid,jG];omega
theorem uH (n:Int):valid (Bn n)=true:=by
 rw[Bn]
 split
 ·exact iB
 ·simp[valid,jG];omega
theorem DL {a b:Int}:(EH a b).2=true->aV (EH a b).1=true:=by
 rw[EH];split
 ·rename_i h;intro _;simp[Bool.and_eq_true]at h;exact h.2
 ·intro h;cases h
theorem qI {a b:Int}:(uC a b).2=true->aV (uC a b).1=true:=by
 rw[uC];split
 ·rename_i h;intro _;simp[Bool.and_eq_true]at h;exact h.2
 ·intro h;cases h
theorem DU {a b:Int}:(F6 a b).2=true->aV (F6 a b).1=true:=by
 rw[F6];split
 ·rename_i h;intro _;simp[Bool.and_eq_true]at h;exact h.2
 ·intro h;cases h
theorem Jk {a b:Int}(ha: -1073741824<=a/\a<=1073741824)(hb:b≠0): -1073741824<=a.fdiv b/\a.fdiv b<=1073741824:=by
 have key: ∀(a b:Int),0<b-> -1073741824<=a->a<=1073741824-> -1073741824<=a.fdiv b/\a.fdiv b<=1073741824:=by
  intro a b hb h1 h2;rw[Int.fdiv_eq_ediv_of_nonneg _ (by omega)];constructor
  ·rw[Int.le_ediv_iff_mul_le hb];have:(-1073741824:Int)*b<= -1073741824*1:=Int.mul_le_mul_of_nonpos_left (by omega) (by omega);omega
  ·have:a / b<1073741825:=by
    rw[Int.ediv_lt_iff_lt_mul hb];have:(1073741825:Int)*1<=1073741825*b:=Int.mul_le_mul_of_nonneg_left (by omega) (by omega);omega
   omega
 rcases Int.lt_or_gt_of_ne hb with h|h
 ·have:=key (-a) (-b) (by omega) (by omega) (by omega);rw[Int.neg_fdiv_neg]at this;exact this
 ·exact key a b (by omega) ha.1 ha.2
theorem Jp {a b:Int}(hb: -1073741824<=b/\b<=1073741824)(h0:b≠0): -1073741824<=a.fmod b/\a.fmod b<=1073741824:=by
 rcases Int.lt_or_gt_of_ne h0 with h|h
 ·have h1:=Int.fmod_nonneg_of_pos (-a) (b:= -b) (by omega);have h2:=Int.fmod_lt_of_pos (-a) (b:= -b) (by omega);rw[Int.neg_fmod_neg]at h1 h2;omega
 ·have h1:=Int.fmod_nonneg_of_pos a (b:=b) (by omega);have h2:=Int.fmod_lt_of_pos a (b:=b) (by omega);omega
theorem DN {a b:Int}:(EW a b).2=true->aV (EW a b).1=true:=by
 rw[EW];split
 ·rename_i h;intro _;simp[aV]at h;have:=Jk (a:=a) (b:=b) (by omega) h.2;simp[aV];omega
 ·intro h;cases h
theorem DR {a b:Int}:(F5 a b).2=true->aV (F5 a b).1=true:=by
 rw[F5];split
 ·rename_i h;intro _;simp[aV]at h;have:=Jp (a:=a) (b:=b) (by omega) h.2;simp[aV];omega
 ·intro h;cases h
theorem mh {t o:Int}(ht:t<=575999999)(ho:o<=840):mg t o<=400001:=by
 unfold mg;split <;> omega
theorem sM {t:Int}(ht:t<=575999999): ∀(l:List Shift) (best o:Int),(∀s∈l,s.offset<=840/\s.at_<=575999999)->o<=840->0<=best->best<=400001->0<=mK t l best o/\mK t l best o<=400001
 | [],best,o,_,ho,h0,h1=>by
  have:=mh ht ho;rw[mK];omega
 |s :: l,best,o,h,ho,h0,h1=>by
  have hs:=h s (by simp);have h2:=mh ht ho;have h3:=mh (t:=s.at_-1) (o:=o) (by omega) ho;rw[mK]
  split
  ·omega
  ·exact sM ht l _ _ (λq hq=>h q (by simp[hq])) hs.1 (by omega) (by omega)
theorem EU {z:Zone}(hz:bg z=0){t:Int}(ht:t<=575999999):0<=Cg z t/\Cg z t<=400001:=by
 obtain ⟨h1,h2⟩:=JM hz;exact sM ht z.shifts 0 z.offset (λs hs=>⟨(h2 s hs).2.1,(h2 s hs).2.2.2⟩) (by omega) (by omega) (by omega)
theorem AO (z:Zone)(t:Int):aV (Le z t).1=true:=by
 rw[Le]
 split
 ·rfl
 ·rename_i h;have h:sK z t=0:=by omega
  rw[sK]at h
  split at h
  ·omega
  ·split at h
   ·omega
   ·have:=EU (z:=z) (by omega) (t:=t) (by omega);simp[aV];omega
theorem gU {v:Val}(h:valid v=true):v.ok:=by
 obtain ⟨k,n,s⟩:=v;have e: ∀s:ByteArray,dx s=true->Str s:=by
  intro s hs;rw[dx,List.isEmpty_iff]at hs;have:s.size=s.toList.length:=by rw[ByteArray.toList_eq];rfl
  unfold Str;rw[this,hs];exact Nat.zero_le _
 rw[valid]at h;simp only at h;refine ⟨?_,?_,?_⟩ <;> simp only
 ·unfold dH;(repeat' split at h) <;> first|omega|(subst_vars;omega)|(cases h)
 ·unfold dH;(repeat' split at h) <;> simp at h <;> omega
 ·(repeat' split at h) <;> simp at h <;> first|exact e _ h.2|exact e _ h.1|(unfold Str;omega)
theorem BK {v:Val}(h:valid v=true):0<=v.kind/\v.kind<=4:=by
 rw[valid]at h
 (repeat' split at h) <;> first|omega|(cases h)
theorem vw {v:Val}(h:valid v=true)(h0:v.kind=0):v=bH:=by
 obtain ⟨k,n,s⟩:=v;simp only at h0;subst h0;simp[valid,dx]at h;obtain ⟨h1,h2⟩:=h;subst h1;have:s=⟨#[]⟩:=by
  rw[ByteArray.toList_eq]at h2;obtain ⟨⟨l⟩⟩:=s;simp at h2;subst h2;rfl
 subst this;rfl
theorem l7 {k:Kd}{v:Val}(hk:ek k)(h:Has k v)(h0:v.kind=0):k.null=true:=by
 rcases h.2 with h1|h1
 ·exact hk.2.2 (by omega)
 ·exact h1.2
theorem jY {k:Kd}{v:Val}(hk:ek k)(h:Has k v){j:Int}(hf:fits k j=true):v.kind=j\/v.kind=0:=by
 simp[fits]at hf;rcases h.2 with h1|h1
 ·omega
 ·exact .inr h1.1
theorem di {k:Int}{b:Bool}{v:Val}(hv:valid v=true)(h:v.kind=k\/(v.kind=0/\b=true)):Has ⟨k,b⟩ v:=⟨hv,h⟩
theorem jZ {k:Kd}(h:k.null=true):Has k bH:=⟨iB,.inr ⟨rfl,h⟩⟩
theorem Dy (n:Int)(ok:Bool):(pO n ok).kind=2\/(pO n ok).kind=0:=by cases ok <;> simp[pO,bH]
theorem wy (n:Int):(Bn n).kind=4\/(Bn n).kind=0:=by rw[Bn];split <;> simp[bH]
theorem qw {x y:Kd}(h:(common x y).2=true):(x.kind=(common x y).1\/x.kind=0)/\(y.kind=(common x y).1\/y.kind=0):=by
 rw[common]at h⊢
 split
 ·rename_i h0;exact ⟨.inr h0,.inl rfl⟩
 ·rename_i h0;rw[if_neg h0]at h;simp[fits]at h;exact ⟨.inl rfl,h⟩
theorem sI {x y:Kd}(hx:ek x)(hy:ek y):0<=(common x y).1/\(common x y).1<=4:=by
 rw[common];split
 ·exact ⟨hy.1,hy.2.1⟩
 ·exact ⟨hx.1,hx.2.1⟩
theorem qP {x y:Kd}(h:(common x y).2=true)(h0:(common x y).1=0):x.kind=0/\y.kind=0:=by
 have:=qw h;omega
theorem Gy {zs:List Zone}{op:Int}{nm:ByteArray}{x:Kd}{v:Val}(hop:op=2\/op=3\/op=16\/op=19\/op=20)(hx:ek x)(hv:Has x v)(h:(ll op x).2=true):
  ek (ll op x).1/\Has (ll op x).1 (DY zs op nm v):=by
 by_cases h0:v.kind=0
 ·have hn:=l7 hx hv h0;rcases hop with rfl|rfl|rfl|rfl|rfl
  ·simp[ll,DY,h0,ek];exact jZ hn
  ·simp[ll,DY,h0,ek];exact jZ hn
  ·simp[ll,DY,h0,ek];exact di (dA _) (.inl rfl)
  ·simp[ll,DY,h0,ek];exact jZ hn
  ·simp[ll,DY,h0,ek];exact jZ hn
 ·rcases hop with rfl|rfl|rfl|rfl|rfl
  ·simp[ll,DY,h0,ek];exact di (dA _) (.inl rfl)
  ·have hk:=(jY hx hv (j:=2) (by simpa[ll] using h)).resolve_right h0;have hs:(uC 0 v.num).2=true:=by
    have h1:=hv.1;rw[valid,if_neg h0,if_neg (by omega),if_pos hk]at h1;simp at h1;rw[uC,if_pos (by simp[aV];omega)]
   simp[ll,DY,h0,ek,hs];exact di (jo _ _ λ_=>qI hs) (.inl rfl)
  ·simp[ll,DY,h0,ek];exact di (dA _) (.inl rfl)
  ·have hk:=(jY hx hv (j:=3) (by simpa[ll] using h)).resolve_right h0;have hs:v.str.size<=64:=by
    have h1:=hv.1;rw[valid,if_neg h0,if_neg (by omega),if_neg (by omega),if_pos hk]at h1;simp at h1;exact h1.2
   simp[ll,DY,h0,ek];exact di (jo _ _ λ_=>by simp[aV];omega) (.inl rfl)
  ·simp[ll,DY,h0,ek];exact di (jo _ _ λ_=>AO _ _) (.inl rfl)
theorem qW {a b:Val}{s:Int}{x y:Kd}(hx:ek x)(ha:Has x a)(hy:ek y)(hb:Has y b)(fx:fits x 1=true)(fy:fits y 1=true):Has ⟨1,x.null || y.null⟩ (xx a b s):=by
 rw[xx]
 split
 ·exact di (dA _) (.inl rfl)
 ·split
  ·rename_i h1 h2;refine di iB (.inr ⟨rfl,?_⟩);have key: ∀{k:Kd} {v:Val},ek k->Has k v->fits k 1=true->truth v<0->k.null=true:=by
    intro k v hk hv hf ht;rcases jY hk hv hf with h3|h3
    ·exfalso;rw[truth,if_pos ⟨h3,hv.1⟩]at ht;have h4:=hv.1;rw[valid,if_neg (by omega),if_pos h3]at h4;simp at h4;omega
    ·exact l7 hk hv h3
   rcases h2 with h2|h2
   ·rw[key hx ha fx h2];rfl
   ·rw[key hy hb fy h2];simp
  ·exact di (dA _) (.inl rfl)
theorem CP {zs:List Zone}{n:Node}{x y:Kd}{a b:Val}(hop:(4<=n.op/\n.op<=15)\/n.op=18)(hx:ek x)(ha:Has x a)(hy:ek y)(hb:Has y b)(h:(dQ n.op x y).2=true):
  ek (dQ n.op x y).1/\Has (dQ n.op x y).1 (rZ zs n [a,b]):=by
 obtain ⟨op,v,nm,ar⟩:=n;simp only at hop h⊢;by_cases PG:op=14
 ·subst PG;simp[dQ]at h;simp[dQ,rZ,ek];exact qW hx ha hy hb h.1 h.2
 by_cases PH:op=15
 ·subst PH;simp[dQ]at h;simp[dQ,rZ,ek];exact qW hx ha hy hb h.1 h.2
 by_cases h18:op=18
 ·subst h18;simp[dQ]at h;have hc:=qw h;have hr:=sI hx hy;have hz:=qP h;simp only[dQ,rZ];refine ⟨⟨hr.1,hr.2,λh0=>?_⟩,?_⟩
  ·simp only[Int.reduceEq,or_self,if_false,if_true]at h0⊢;have:=hz h0;simp[hx.2.2 this.1,hy.2.2 this.2]
  ·simp only[Int.reduceEq,or_self,if_false,if_true];by_cases ha0:a.kind=0
   ·rw[if_pos ha0];have RG:=l7 hx ha ha0;refine di hb.1 ?_;rcases hb.2 with h1|h1
    ·rcases hc.2 with h2|h2
     ·exact .inl (by omega)
     ·exact .inr ⟨by omega,by simp[RG,hy.2.2 h2]⟩
    ·exact .inr ⟨h1.1,by simp[RG,h1.2]⟩
   ·rw[if_neg ha0];refine di ha.1 ?_;rcases ha.2 with h1|h1
    ·rcases hc.1 with h2|h2
     ·exact .inl (by omega)
     ·omega
    ·omega
 have hop':4<=op/\op<=13:=by omega
 have hko:ek (dQ op x y).1:=by
  have h4:op=4\/op=5\/op=6\/op=7\/op=8\/op=9\/op=10\/op=11\/op=12\/op=13:=by omega
  rcases h4 with rfl|rfl|rfl|rfl|rfl|rfl|rfl|rfl|rfl|rfl <;> simp[dQ] <;> (repeat' split) <;> simp[ek]
 refine ⟨hko,?_⟩;simp only[rZ];rw[if_neg PG,if_neg PH,if_neg h18];by_cases h0:a.kind=0\/b.kind=0
 ·rw[if_pos h0];refine jZ ?_;have hn:x.null=true\/y.null=true:=by
   rcases h0 with h0|h0
   ·exact .inl (l7 hx ha h0)
   ·exact .inr (l7 hy hb h0)
  have hn':(x.null || y.null)=true:=by simpa using hn
  have h4:op=4\/op=5\/op=6\/op=7\/op=8\/op=9\/op=10\/op=11\/op=12\/op=13:=by omega
  rcases h4 with rfl|rfl|rfl|rfl|rfl|rfl|rfl|rfl|rfl|rfl <;> simp[dQ] <;> (repeat' split) <;> first|exact hn'|rfl|(simp;done)|simpa using hn
 ·rw[if_neg h0];have ha0:a.kind≠0:=λq=>h0 (.inl q);have hb0:b.kind≠0:=λq=>h0 (.inr q);have hax:a.kind=x.kind:=ha.2.resolve_right λq=>ha0 q.1;have hby:b.kind=y.kind:=hb.2.resolve_right λq=>hb0 q.1;have num: ∀n ok,(ok=true->aV n=true)->Has ⟨2,true⟩ (pO n ok):=λn ok hh=>di (jo n ok hh) ((Dy n ok).elim .inl λq=>.inr ⟨q,rfl⟩);have h4:op=4\/op=5\/op=6\/op=7\/op=8\/op=9\/op=10\/op=11\/op=12\/op=13:=by omega
  rcases h4 with rfl|rfl|rfl|rfl|rfl|rfl|rfl|rfl|rfl|rfl
  ·simp only[dQ,qj,lS,Int.reduceEq,or_self,if_false,if_true];by_cases hx4:x.kind=4
   ·rw[if_pos hx4,if_pos (by omega)];exact di (uH _) ((wy _).elim .inl λq=>.inr ⟨q,rfl⟩)
   ·rw[if_neg hx4,if_neg (by omega)];exact num _ _ DL
  ·simp only[dQ,qj,lS,Int.reduceEq,or_self,if_false,if_true]at h⊢;by_cases hy4:y.kind=4
   ·rw[if_pos hy4]at h⊢;have hx4:a.kind=4:=(jY hx ha h).resolve_right ha0;rw[if_neg (by omega)];have va:=ha.1;have vb:=hb.1;rw[valid,if_neg ha0,if_neg (by omega),if_neg (by omega),if_neg (by omega),if_pos hx4]at va;rw[valid,if_neg hb0,if_neg (by omega),if_neg (by omega),if_neg (by omega),if_pos (by omega)]at vb;simp at va vb;have hs:(uC a.num b.num).2=true:=by rw[uC,if_pos (by simp[aV];omega)]
    rw[hs];exact di (jo _ _ λ_=>qI hs) (.inl rfl)
   ·rw[if_neg hy4]at h⊢;by_cases hx4:x.kind=4
    ·rw[if_pos hx4]at h⊢;have hb2:b.kind=2:=(jY hy hb h).resolve_right hb0;rw[if_pos ⟨by omega,hb2⟩];exact di (uH _) ((wy _).elim .inl λq=>.inr ⟨q,rfl⟩)
    ·rw[if_neg hx4]at h⊢;rw[if_neg (by omega)];exact num _ _ qI
  ·simp only[dQ,qj,lS,Int.reduceEq,or_self,or_false,false_or,or_true,true_or,if_false,if_true];exact num _ _ DU
  ·simp only[dQ,qj,lS,Int.reduceEq,or_self,or_false,false_or,or_true,true_or,if_false,if_true];exact num _ _ DN
  ·simp only[dQ,qj,lS,Int.reduceEq,or_self,or_false,false_or,or_true,true_or,if_false,if_true];exact num _ _ DR
  ·simp only[dQ,qj,Int.reduceEq,or_self,if_false,if_true]
   split
   ·exact jZ rfl
   ·rename_i hs;exact di (by simp[valid];simpa using hs) (.inl rfl)
  ·simp only[dQ,qj,Int.reduceEq,or_self,if_false,if_true];exact di (dA _) (.inl rfl)
  ·simp only[dQ,qj,Int.reduceEq,or_self,if_false,if_true];exact di (dA _) (.inl rfl)
  ·simp only[dQ,qj,Int.reduceEq,or_self,if_false,if_true];exact di (dA _) (.inl rfl)
  ·simp only[dQ,qj,Int.reduceEq,or_self,if_false,if_true];exact di (dA _) (.inl rfl)
theorem FT {zs:List Zone}{n:Node}{y z:Kd}{a b c:Val}{m:List Val}(hy:ek y)(hb:Has y b)(hz:ek z)(hc:Has z c)(h:(common y z).2=true):
  ek ⟨(common y z).1,y.null || z.null⟩/\Has ⟨(common y z).1,y.null || z.null⟩ (rZ zs n (a :: b :: c :: m)):=by
 have hcm:=qw h;have hr:=sI hy hz;have h0:=qP h;refine ⟨⟨hr.1,hr.2,λq=>?_⟩,?_⟩
 ·have:=h0 q;simp[hy.2.2 this.1]
 ·have one: ∀{k:Kd} {v:Val},ek k->Has k v->(k.kind=(common y z).1\/k.kind=0)->(k.null=true->(y.null || z.null)=true)->Has ⟨(common y z).1,y.null || z.null⟩ v:=by
   intro k v hk hv hcm hn;refine di hv.1 ?_;rcases hv.2 with h1|h1
   ·rcases hcm with h2|h2
    ·exact .inl (by omega)
    ·exact .inr ⟨by omega,hn (hk.2.2 h2)⟩
   ·exact .inr ⟨h1.1,hn h1.2⟩
  simp only[rZ]
  split
  ·exact one hy hb hcm.1 (λq=>by simp[q])
  ·exact one hz hc hcm.2 (λq=>by simp[q])
def Cr (xs:List Ent):Int×List Ent:=if ag (λ_ x=>aA x) 0 xs≠0 then (ag (λ_ x=>aA x) 0 xs,[]) else gV xs
def rq (at_:Int)(z:Zone)(rows:List Ent)(d:Int):List Ent:=rows.filter λx=>lV at_ z x.row != d
def CG (at_:Int)(z:Zone)(old new:List Ent)(ds:List Int):Prop:=
 Asc ds/\ ∀d,d∈ds↔jH at_ z old d≠jH at_ z new d
theorem nI {b:List Ent}(h:au b=0)(p:Ent->Bool):au (b.filter p)=0:=by
 obtain ⟨h1,h2,h3⟩:=dM.1 h;exact dM.2 ⟨Nat.le_trans (List.length_filter_le _ _) h1,λx hx=>h2 x (List.mem_filter.1 hx).1,h3.filter p⟩
theorem IU {xs:List Ent}:ag (λ_ x=>aA x) 0 xs=0↔ ∀x∈xs,aA x=0:=by
 rw[mO];constructor
 ·intro h x hx;obtain ⟨j,hj⟩:=List.mem_iff_getElem?.1 hx;exact h j x hj
 ·intro h j x hx;exact h x (List.mem_iff_getElem?.2 ⟨j,hx⟩)
theorem ug {xs:List Ent}(h: ∀x∈xs,aA x=0):Cr xs=gV xs:=by
 rw[Cr,if_neg (by rw[IU.2 h];simp)]
theorem iZ {b:List Ent}(h:au b=0): ∀x∈b,aA x=0:=λx hx=>((dM.1 h).2.1 x hx).1
theorem jQ {p:Ent->Bool}{l:List Ent}{r:List Val}(h: ∀x∈l,x.row=r->p x=true):cnt (l.filter p) r=cnt l r:=by
 induction l with
 |nil=>rfl
 |cons x l ih=>
  have ih:=ih λy hy=>h y (by simp[hy]);by_cases q:p x=true
  ·rw[List.filter_cons_of_pos q,cnt,cnt,ih]
  ·rw[List.filter_cons_of_neg q,cnt,ih,if_neg]
   ·omega
   ·intro e;exact q (h x (by simp) (aS.1 e))
theorem jP {p:Ent->Bool}{l:List Ent}{r:List Val}(h: ∀x∈l,x.row=r->p x=false):cnt (l.filter p) r=0:=by
 refine dE λx hx e=>?_;obtain ⟨h1,h2⟩:=List.mem_filter.1 hx;rw[h x h1 (aS.1 e)]at h2;cases h2
theorem CV {at_:Int}{z:Zone}{l:List Ent}{d:Int}{r:List Val}:cnt (rq at_ z l d) r=if lV at_ z r=d then 0 else cnt l r:=by
 split
 ·rename_i h;exact jP λx _ e=>by rw[e,h];simp
 ·rename_i h;exact jQ λx _ e=>by rw[e];simpa using h
theorem qp {at_:Int}{z:Zone}{l:List Ent}{d:Int}{r:List Val}:cnt (jH at_ z l d) r=if lV at_ z r=d then cnt l r else 0:=by
 split
 ·rename_i h;exact jQ λx _ e=>by rw[e];simpa using h
 ·rename_i h;exact jP λx _ e=>by rw[e];simpa using h
structure Mixed (at_:Int) (z:Zone) (old new now:List Ent) (done:List Int):Prop where
 bag:au now=0
 cnt: ∀r,cnt now r=if lV at_ z r∈done then cnt new r else cnt old r
theorem Mixed.start {at_:Int}{z:Zone}{old new:List Ent}(h:au old=0):Mixed at_ z old new old []:=⟨h,λr=>by simp⟩
theorem rU {b:List Ent}(h:au b=0):Mt b:=λx hx=>((dM.1 h).2.1 x hx).2
theorem dN {b:List Ent}(h:au b=0):eu b:=(dM.1 h).2.2
theorem IG {a b:List Ent}(h:au a=0)(h':au b=0)(hc: ∀r,Proofs.YtopjjlmfilgngaaGreatDoor.cnt a r=Proofs.YtopjjlmfilgngaaGreatDoor.cnt b r):a=b:=wP (dN h) (dN h') (rU h) (rU h') hc
theorem rY {b:List Ent}(h:au b=0){r:List Val}:Proofs.YtopjjlmfilgngaaGreatDoor.cnt b r≠0↔ ∃x∈b,x.row=r:=by
 constructor
 ·intro q;by_cases g: ∃x∈b,x.row=r
  ·exact g
  ·exact absurd (dE λx hx e=>g ⟨x,hx,aS.1 e⟩) q
 ·rintro ⟨x,hx,rfl⟩;rw[(dN h).mem hx];exact rU h x hx
theorem Dz {at_:Int}{z:Zone}{a b:List Ent}(h:au a=0)(h':au b=0){d:Int}(hc: ∀r,lV at_ z r=d->Proofs.YtopjjlmfilgngaaGreatDoor.cnt a r=Proofs.YtopjjlmfilgngaaGreatDoor.cnt b r):jH at_ z a d=jH at_ z b d:=
 IG (nI h _) (nI h' _) λr=>by
  show Proofs.YtopjjlmfilgngaaGreatDoor.cnt (jH at_ z a d) r=Proofs.YtopjjlmfilgngaaGreatDoor.cnt (jH at_ z b d) r;rw[qp,qp]
  split
  ·rename_i q;exact hc r q
  ·rfl
theorem Mixed.ne {at_:Int}{z:Zone}{old new now:List Ent}{ds done l:List Int}{d:Int}(h:Mixed at_ z old new now done)(ho:au old=0)(hn:au new=0)(hc:CG at_ z old new ds)(e:ds=done++d :: l):now≠new:=by
 rintro rfl;have h1:=(hc.2 d).1 (by rw[e];simp);apply h1;refine Dz ho hn λr hr=>?_;have h2:=h.cnt r;rw[if_neg]at h2
 ·exact h2.symm
 ·rw[hr];intro q;have:=hc.1;rw[e]at this;have:=(List.pairwise_append.1 this).2.2 d q d (by simp);omega
theorem Mixed.fin {at_:Int}{z:Zone}{old new now:List Ent}{ds:List Int}(h:Mixed at_ z old new now ds)(ho:au old=0)(hn:au new=0)(hc:CG at_ z old new ds):now=new:=by
 refine IG h.bag hn λr=>?_;rw[h.cnt]
 split
 ·rfl
 ·rename_i q;rw[hc.2]at q;have q:jH at_ z old (lV at_ z r)=jH at_ z new (lV at_ z r):=by
   by_cases g:jH at_ z old (lV at_ z r)=jH at_ z new (lV at_ z r)
   ·exact g
   ·exact absurd g q
  have:=congrArg (λl=>Proofs.YtopjjlmfilgngaaGreatDoor.cnt l r) q;simpa[qp] using this
theorem rX {b:List Ent}(h:eu b)(hz:Mt b){l:List Ent}(hl: ∀r,Proofs.YtopjjlmfilgngaaGreatDoor.cnt b r≠0-> ∃x∈l,x.row=r):b.length<=l.length:=by
 have hnd:(b.map Ent.row).Nodup:=by
  rw[List.nodup_iff_pairwise_ne,List.pairwise_map];refine h.imp λ{x y} q e=>?_;rw[e,aS.2 rfl]at q;omega
 have hsub: ∀r∈b.map Ent.row,r∈l.map Ent.row:=λr hr=>by
  obtain ⟨x,hx,rfl⟩:=List.mem_map.1 hr;obtain ⟨y,hy,e⟩:=hl x.row (by rw[h.mem hx];exact hz x hx);exact List.mem_map.2 ⟨y,hy,e⟩
 have:=hnd.length_le_of_subset hsub;simpa using this
theorem Mixed.rows {at_:Int}{z:Zone}{old new now:List Ent}{done:List Int}(h:Mixed at_ z old new now done): ∀x∈now,∃y∈old++new,y.row=x.row:=λx hx=>by
 have h1:=(rY h.bag (r:=x.row)).2 ⟨x,hx,rfl⟩;by_cases g: ∃y∈old++new,y.row=x.row
 ·exact g
 ·exfalso;rw[h.cnt]at h1;apply h1
  split
  ·exact dE λy hy e=>g ⟨y,by simp[hy],aS.1 e⟩
  ·exact dE λy hy e=>g ⟨y,by simp[hy],aS.1 e⟩
theorem Mixed.len {at_:Int}{z:Zone}{old new now:List Ent}{done:List Int}(h:Mixed at_ z old new now done):now.length<=(old++new).length:=
 rX (dN h.bag) (rU h.bag) λr hr=>by
  obtain ⟨x,hx,rfl⟩:=(rY h.bag).1 hr;exact h.rows x hx
theorem Mixed.step {at_:Int}{z:Zone}{old new now:List Ent}{done:List Int}{d:Int}(h:Mixed at_ z old new now done)(ho:au old=0)(hn:au new=0)(hl:(old++new).length<=4096):
  ∃nx,gV (rq at_ z now d++jH at_ z new d)=(0,nx)/\Mixed at_ z old new nx (done++[d]):=by
 have hc: ∀r,Proofs.YtopjjlmfilgngaaGreatDoor.cnt (rq at_ z now d++jH at_ z new d) r=if lV at_ z r∈done++[d] then Proofs.YtopjjlmfilgngaaGreatDoor.cnt new r else Proofs.YtopjjlmfilgngaaGreatDoor.cnt old r:=λr=>by
  rw[iO,CV,qp,h.cnt];by_cases q:lV at_ z r=d
  ·simp[q]
  ·simp[q]
 have hok: ∀x∈rq at_ z now d++jH at_ z new d,aA x=0:=λx hx=>by
  rcases List.mem_append.1 hx with hx|hx
  ·exact iZ h.bag x (List.mem_filter.1 hx).1
  ·exact iZ hn x (List.mem_filter.1 hx).1
 have FJ:aZ 0 (aY (bz (rq at_ z now d++jH at_ z new d)))=false:=by
  refine (kY _ 0 (dW _) (by omega)).2 ⟨λx hx=>?_,?_⟩
  ·have h1:=(fU (iA _)).mem hx;rw[eU,gu,hc]at h1;have hx0:=dW _ x hx;have: ∀b:List Ent,au b=0->Proofs.YtopjjlmfilgngaaGreatDoor.cnt b x.row=x.count-> -65536<=x.count/\x.count<=65536:=λb hb e=>by
    obtain ⟨y,hy,e2⟩:=(rY hb (r:=x.row)).1 (by rw[e];exact hx0);have:=(dN hb).mem hy;rw[e2,e]at this;have:=wX (iZ hb y hy);omega
   split at h1
   ·exact this new hn h1
   ·exact this old ho h1
  ·have:(aY (bz (rq at_ z now d++jH at_ z new d))).length<=(old++new).length:=
    rX (fU (iA _)) (dW _) λr hr=>by
     rw[eU,gu,hc]at hr;by_cases g: ∃y∈old++new,y.row=r
     ·exact g
     ·exfalso;apply hr
      split
      ·exact dE λy hy e=>g ⟨y,by simp[hy],aS.1 e⟩
      ·exact dE λy hy e=>g ⟨y,by simp[hy],aS.1 e⟩
   omega
 rw[gq]at FJ;have hb:gV (rq at_ z now d++jH at_ z new d)=(0,aY (bz (rq at_ z now d++jH at_ z new d))):=by rw[gV,FJ];simp
 have h1:=rT hok;rw[hb]at h1;exact ⟨_,hb,h1,λr=>by rw[eU,gu,hc]⟩
theorem In.part {w:World}{A:Option Addr}{n c k:Nat}{xs:List Partn}(h:In w A n c xs)(hk:k<n): ∃b off x,A=some ⟨b,off,none⟩/\b<w.heap.size/\Hid (xs.drop k=x :: xs.drop (k+1))/\
  ∃A' n' c',w.cell? ⟨b,off+k*2,none⟩=some (.int .i64 x.day)/\w.cell? ⟨b,off+k*2+1,none⟩=some (.slice A' n' c')/\In w A' n' c' x.rows/\dH x.day:=by
 obtain ⟨b,off,x,e,hb,hx,cs,⟨A',n',c',rfl,hs,hv⟩,hc⟩:=h.get hk;exact ⟨b,off,x,e,hb,hx,A',n',c',hc 0 (by simp),hc 1 (by simp),hs,hv⟩
end Go.Proofs.YtopjjlmfilgngaaGreatDoor
