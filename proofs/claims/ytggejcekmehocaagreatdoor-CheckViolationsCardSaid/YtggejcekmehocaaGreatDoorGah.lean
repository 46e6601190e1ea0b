/-
  Days of zones: Floor, local days, the checks. warehouseref4.offset and local. Plain functions of chapter 22: schemes, days of rows, partitions, as both texts compute them. No program is in sight. warehouseref4.day. zone.dayAt, zone.Day, warehouseref4.Day: both days are dayS. Plain law: the value of a well-typed expression fits its type; what each operator's operands then are. No program is in sight. Plain law of chapter 22: Pick, Replace, Changed and the sums of bags. No program is in sight. Cells of partitions in a slice. No program is in sight.
-/
import Derived.Test.YtggejcekmehocaaGreatDoorGaf
import Derived.Test.YtggejcekmehocaaGreatDoorGac
import Derived.Test.YtggejcekmehocaaGreatDoorGaa
namespace Go.Proofs.YtggejcekmehocaaGreatDoor
set_option maxHeartbeats 1000000
set_option maxRecDepth 100000
open Go.RowKit
set_option linter.unusedSimpArgs false
set_option linter.unusedVariables false
theorem Jg (a:Int)(h1: -4611686018427387904<=a)(h2:a<=4611686018427387904)(w:World):Calls Tryz.prog 255 #[.int .i64 a,.int .i64 1440] w λe w'=>e=.returned (.int .i64 (a / 1440))/\w=w':=by
 by_cases h:0<=a
 ·go_enter Tryz.func255,Tryz.ntmps255
  go_wp2
  all_goals (first|(exfalso;go_light;omega)|(go_ret;exact ⟨ak (by go_light;omega),rfl⟩))
 ·have e1:a.tdiv 1440= -((-a) / 1440):=by
   have h3:a.tdiv 1440= -((-a).tdiv 1440):=by rw[Int.neg_tdiv,Int.neg_neg]
   rw[h3,Int.tdiv_eq_ediv_of_nonneg (a:= -a) (by omega)]
  have e2:a.tmod 1440= -((-a) % 1440):=by
   have h3:a.tmod 1440= -((-a).tmod 1440):=by rw[Int.neg_tmod,Int.neg_neg]
   rw[h3,Int.tmod_eq_emod_of_nonneg (a:= -a) (by omega)]
  have E1:=hide e1
  have E2:=hide e2
  have hw:=hide (IntWalk.wrap64_in (a.tdiv 1440-1) (by rw[e1];omega))
  clear e1 e2
  go_enter Tryz.func255,Tryz.ntmps255
  go_wp2
  all_goals
   go_ret
   refine ⟨ak ?_,rfl⟩
   have e1:=E1.out
   have e2:=E2.out
   go_light
   first|(rw[hw.out];omega)|omega
theorem wm (t o:Int)(h1: -4611686018427387904<=t)(h2:t<=4611686018427387904)(h3: -840<=o)(h4:o<=840)(w:World):Calls Tryz.prog 238 #[.int .i64 t,.int .i64 o] w λe w'=>e=.returned (.int .i64 (gV t o))/\w=w':=by
 by_cases h:t+o<0
 ·go_enter Tryz.func238,Tryz.ntmps238
  go_wp2
  all_goals (first|(exfalso;go_light;omega)|(go_ret;exact ⟨ak (by simp[gV,h]),rfl⟩))
 ·have h':0<=t+o:=by omega
  go_enter Tryz.func238,Tryz.ntmps238
  go_wp2
  all_goals (first|(exfalso;go_light;omega)|(go_ret;exact ⟨ak (by rw[gV,if_neg (by omega)]),rfl⟩))
theorem Ha (w:World)(A:Option Addr)(n c:Nat)(z:Zone)(hx:In w A n c z.shifts)(ho:ig z.offset)(t:Int):
  Calls Tryz.prog 213 #[.agg #[.string z.name,.int .i64 z.offset,.slice A n c],.int .i64 t] w λe w'=>e=.returned (.int .i64 (gu z t))/\Below w.heap.size w w':=by
 go_enter Tryz.func213,Tryz.ntmps213
 go_wp2_with fail
 refine (Fx _ A n c z (hx.below (by first|exact af|exact Below.refl _ _)) ho).mono ?_
 rintro e w1 ⟨rfl,hb1⟩
 have hbb:Below w.heap.size w w1:=by first|exact hb1|exact aa af hb1
 clear hb1
 by_cases h0:aJ z=0
 ·have HD:Hid (gu z t=if t<0\/575999999<t then 1 else 0):=hide (by rw[gu,if_neg (by simp[h0])])
  rw[h0]
  clear h0
  go_wp2
  all_goals (go_ret;refine ⟨ak ?_,hbb⟩;rw[HD.out];go_light;(try simp only[decide_eq_true_eq,decide_eq_false_iff_not]at*);first|(rw[if_pos (by omega)])|(rw[if_neg (by omega)]))
 ·have HD:Hid (gu z t=aJ z):=hide (by rw[gu,if_pos h0])
  have q:(aJ z != 0)=true:=by simpa using h0
  clear h0
  go_wp2
  go_ret
  exact ⟨ak HD.out.symm,hbb⟩
theorem Hd (w:World)(A:Option Addr)(n c:Nat)(z:Zone)(hx:In w A n c z.shifts)(ho:ig z.offset)(t:Int):
  Calls Tryz.prog 241 #[.agg #[.string z.name,.int .i64 z.offset,.slice A n c],.int .i64 t] w λe w'=>e=.returned (.int .i64 (gu z t))/\Below w.heap.size w w':=by
 go_enter Tryz.func241,Tryz.ntmps241
 go_wp2_with fail
 refine (Fy _ A n c z (hx.below (by first|exact af|exact Below.refl _ _)) ho).mono ?_
 rintro e w1 ⟨rfl,hb1⟩
 have hbb:Below w.heap.size w w1:=by first|exact hb1|exact aa af hb1
 clear hb1
 by_cases h0:aJ z=0
 ·have HD:Hid (gu z t=if t<0\/575999999<t then 1 else 0):=hide (by rw[gu,if_neg (by simp[h0])])
  rw[h0]
  clear h0
  go_wp2
  all_goals (go_ret;refine ⟨ak ?_,hbb⟩;rw[HD.out];go_light;(try simp only[decide_eq_true_eq,decide_eq_false_iff_not]at*);first|(rw[if_pos (by omega)])|(rw[if_neg (by omega)]))
 ·have HD:Hid (gu z t=aJ z):=hide (by rw[gu,if_pos h0])
  have q:(aJ z != 0)=true:=by simpa using h0
  clear h0
  go_wp2
  go_ret
  exact ⟨ak HD.out.symm,hbb⟩
theorem JS {l:List Shift}{k:Nat}(h:bi l k (l.drop k)=0): ∀s∈l.drop k, -840<=s.offset/\s.offset<=840/\1<=s.at_/\s.at_<=575999999:=by
 have key: ∀(r:List Shift) (k:Nat),bi l k r=0-> ∀s∈r, -840<=s.offset/\s.offset<=840/\1<=s.at_/\s.at_<=575999999:=by
  intro r
  induction r with
  |nil=>intro k _ s hs;cases hs
  |cons x r ih=>
   intro k h s hs
   rw[bi]at h
   split at h
   ·contradiction
   ·rename_i h0
    have h0:dZ l k x=0:=by omega
    rcases List.mem_cons.1 hs with rfl|hs
    ·rw[dZ]at h0
     split at h0
     ·omega
     ·rename_i hn
      have h3:l6 s.offset=true:=by
       cases hq:l6 s.offset
       ·exact absurd (.inr (.inr hq)) hn
       ·rfl
      simp[l6]at h3
      have h1:¬s.at_<1:=λq=>hn (.inl q)
      have h2:¬575999999<s.at_:=λq=>hn (.inr (.inl q))
      omega
    ·exact ih (k+1) h s hs
 exact key _ k h
theorem EO (w:World)(A:Option Addr)(n c:Nat)(z:Zone)(hx:In w A n c z.shifts)(ho:ig z.offset)(t:Int):
  Calls Tryz.prog 257 #[.agg #[.string z.name,.int .i64 z.offset,.slice A n c],.int .i64 t] w λe w'=>e=.returned (.int .i64 (jN t z.shifts z.offset))/\Below w.heap.size w w':=by
 obtain ⟨nm,jc,xs⟩:=z
 simp only at hx ho⊢
 have h63:=hx.le
 go_enter Tryz.func257,Tryz.ntmps257
 go_wp2
 obtain ⟨w1,hw1⟩: ∃w1,w1=w.alloc (.cells #[.string nm,.int .i64 jc,.slice A n c] 101):=⟨_,rfl⟩
 have g2:w1.cell? ⟨w.heap.size,2,none⟩=some (.slice A n c):=by rw[hw1];simp[go_sem]
 have hb1:Below w.heap.size w w1:=by rw[hw1];exact af
 rw[<-hw1]
 clear hw1
 have hin:=hx.below hb1
 go_loop [5,6] (λo i=> ∃(k:Nat) (q:Int),k<=n/\i=.int .i64 k/\o=.int .i64 q/\jN t xs jc=jN t (xs.drop k) q) (λ_ i=>n-(intOf i).toNat)
 case atStart=>exact ⟨0,jc,Nat.zero_le _,rfl,rfl,rfl⟩
 case round=>
  obtain ⟨k,q,hk,rfl,rfl,heq⟩:=hrel
  have HE:=hide heq
  clear heq
  by_cases hlt:k<n
  ·obtain ⟨b,off,x,rfl,hB,HX,f0,f1,f2,f3⟩:=hin.shift hlt
   by_cases hs:x.at_<=t
   ·have HN:Hid (jN t xs jc=jN t (xs.drop (k+1)) x.offset):=hide (by rw[HE.out,HX.out,jN,if_pos hs])
    go_wp2
    go_round
    case rel=>exact ⟨k+1,x.offset,by omega,by go_num,rfl,HN.out⟩
    case measure=>simp[intOf];omega
   ·have HN:Hid (jN t xs jc=jN t (xs.drop (k+1)) q):=hide (by rw[HE.out,HX.out,jN,if_neg hs])
    go_wp2
    go_round
    case rel=>exact ⟨k+1,q,by omega,by go_num,rfl,HN.out⟩
    case measure=>simp[intOf];omega
  ·go_wp2
   go_ret
   exact ⟨ak (by rw[HE.out,aP hx.len (by omega),jN]),hb1⟩
theorem Io (t:Int): ∀(l:List Shift) (o:Int),(∀s∈l, -840<=s.offset/\s.offset<=840)-> -840<=o/\o<=840-> -840<=jN t l o/\jN t l o<=840
 | [],o,_,h=>h
 |s :: l,o,h,ho=>by
  rw[jN]
  refine Io t l _ (λq hq=>h q (by simp[hq])) ?_
  split
  ·exact h s (by simp)
  ·exact ho
theorem vC {z:Zone}(hz:aJ z=0):(-840<=z.offset/\z.offset<=840)/\ ∀s∈z.shifts, -840<=s.offset/\s.offset<=840/\1<=s.at_/\s.at_<=575999999:=by
 rw[aJ]at hz
 split at hz
 ·omega
 ·split at hz
  ·omega
  ·rename_i h1 h2
   refine ⟨?_,JS (k:=0) hz⟩
   have h3:l6 z.offset=true:=by
    cases hq:l6 z.offset
    ·exact absurd hq h2
    ·rfl
   simpa[l6] using h3
theorem zw (w:World)(A:Option Addr)(n c:Nat)(z:Zone)(hx:In w A n c z.shifts)(hz:aJ z=0)(t:Int)(ht0: -1<=t)(ht1:t<=576000000):
  Calls Tryz.prog 254 #[.agg #[.string z.name,.int .i64 z.offset,.slice A n c],.int .i64 t] w λe w'=>e=.returned (.int .i64 (rP z t))/\Below w.heap.size w w':=by
 obtain ⟨hb0,hb1⟩:=vC hz
 have hbd:=Io t z.shifts z.offset (λs hs=>⟨(hb1 s hs).1,(hb1 s hs).2.1⟩) hb0
 have ho:ig z.offset:=by unfold ig;omega
 obtain ⟨q,hq⟩: ∃q,jN t z.shifts z.offset=q:=⟨_,rfl⟩
 rw[hq]at hbd
 have HQ:=hide hq
 have HR:Hid (rP z t=(t+q) / 1440):=hide (by rw[rP,hq])
 obtain ⟨l0,l1⟩:=hbd
 clear hq hb0 hb1 hz
 go_enter Tryz.func254,Tryz.ntmps254
 go_wp2_with fail
 refine (EO _ A n c z (hx.below af) ho t).mono ?_
 rintro e w1 ⟨rfl,hb1⟩
 have hbb:=aa af hb1
 clear hb1
 rw[HQ.out]
 go_wp2_with fail
 refine (Jg (t+q) (by omega) (by omega) _).mono ?_
 rintro e w' ⟨rfl,rfl⟩
 go_wp2
 go_ret
 exact ⟨ak HR.out.symm,hbb⟩
structure Partn where
 day:Int
 rows:List Ent
instance:Inhabited Partn:=⟨⟨0,[]⟩⟩
instance:Rep Partn where
 size:=2
 rd w S cs x:= ∃A n c,cs=[.int .i64 x.day,.slice A n c]/\Sl w S A n c x.rows/\ig x.day
 len h:=by obtain ⟨A,n,c,rfl,_⟩:=h;rfl
 keep hs h:=by obtain ⟨A,n,c,rfl,h,hc⟩:=h;exact ⟨A,n,c,rfl,h.keep hs,hc⟩
 mono hs h:=by obtain ⟨A,n,c,rfl,h,hc⟩:=h;exact ⟨A,n,c,rfl,h.mono hs,hc⟩
def Q6 (z:Zone)(v:Val):Int:=
 if v.kind=4 then (if gu z v.num=0 then uK z v.num else -1) else if v.kind=2/\0<=v.num/\v.num<=400000 then v.num else -1
def qL (at_:Int)(z:Zone)(row:List Val):Int:=if at_<0 then -1 else Q6 z (row.getD at_.toNat default)
def nK (at_:Int)(z:Zone)(rows:List Ent)(d:Int):List Ent:=rows.filter λx=>qL at_ z x.row==d
def Asc (l:List Int):Prop:=l.Pairwise (· < ·)
def kW (last:Int):List Int->Int->Int
 | [],m=>m
 |x :: l,m=>kW last l (if last<x/\x<m then x else m)
theorem nH (last:Int): ∀(l:List Int) (m:Int),kW last l m<=m/\(kW last l m=m\/(kW last l m∈l/\last<kW last l m))/\ ∀x∈l,last<x->kW last l m<=x
 | [],m=>⟨Int.le_refl _,.inl rfl,λx hx=>by cases hx⟩
 |y :: l,m=>by
  rw[kW]
  by_cases h:last<y/\y<m
  ·rw[if_pos h]
   obtain ⟨a,b,c⟩:=nH last l y
   refine ⟨by omega,?_,λx hx hl=>?_⟩
   ·rcases b with b|b
    ·exact .inr ⟨by rw[b];simp,by omega⟩
    ·exact .inr ⟨List.mem_cons_of_mem _ b.1,b.2⟩
   ·rcases List.mem_cons.1 hx with rfl|hx
    ·exact a
    ·exact c x hx hl
  ·rw[if_neg h]
   obtain ⟨a,b,c⟩:=nH last l m
   refine ⟨a,?_,λx hx hl=>?_⟩
   ·rcases b with b|b
    ·exact .inl b
    ·exact .inr ⟨List.mem_cons_of_mem _ b.1,b.2⟩
   ·rcases List.mem_cons.1 hx with rfl|hx
    ·omega
    ·exact c x hx hl
def FR (l ks:List Int)(last:Int):Prop:=Asc ks/\ ∀d,d∈ks↔d∈l/\d<=last
theorem FR.start {l:List Int}(h: ∀d∈l, -1<=d):FR l [] (-2):=⟨List.Pairwise.nil,λd=>⟨(λh=>by cases h),(λ⟨h1,h2⟩=>by have:=h d h1;omega)⟩⟩
theorem FR.done {l ks:List Int}{last:Int}(h:FR l ks last)(hm: ∀d∈l,d<=400000)(he:kW last l 400001=400001):Asc ks/\ ∀d,d∈ks↔d∈l:=by
 refine ⟨h.1,λd=>⟨λhd=>((h.2 d).1 hd).1,λhd=>(h.2 d).2 ⟨hd,?_⟩⟩⟩
 have h1:=hm d hd
 by_cases q:d<=last
 ·exact q
 ·have:=(nH last l 400001).2.2 d hd (by omega)
  omega
theorem FR.step {l ks:List Int}{last:Int}(h:FR l ks last)(he:kW last l 400001≠400001):FR l (ks++[kW last l 400001]) (kW last l 400001)/\last<kW last l 400001/\kW last l 400001∈l:=by
 obtain ⟨a,b,c⟩:=nH last l 400001
 obtain ⟨b1,b2⟩:=b.resolve_left he
 refine ⟨⟨?_,λd=>?_⟩,b2,b1⟩
 ·rw[Asc,List.pairwise_append]
  refine ⟨h.1,List.pairwise_singleton _ _,λx hx y hy=>?_⟩
  simp at hy
  have:=((h.2 x).1 hx).2
  omega
 ·rw[List.mem_append,h.2 d]
  simp only[List.mem_singleton]
  constructor
  ·rintro (⟨h1,h2⟩|rfl)
   ·exact ⟨h1,by omega⟩
   ·exact ⟨b1,Int.le_refl _⟩
  ·rintro ⟨h1,h2⟩
   by_cases q:d<=last
   ·exact .inl ⟨h1,q⟩
   ·have:=c d h1 (by omega)
    exact .inr (by omega)
theorem Lm (w:World)(A:Option Addr)(n c:Nat)(z:Zone)(hx:In w A n c z.shifts)(hz:aJ z=0)(t:Int)(ht0:0<=t)(ht1:t<=575999999):
  Calls Tryz.prog 242 #[.agg #[.string z.name,.int .i64 z.offset,.slice A n c],.int .i64 t] w λe w'=>e=.returned (.int .i64 (MV z t))/\Below w.heap.size w w':=by
 have HB1:=hide (vC hz).2
 have HZ:=hide hz
 have h63:=hx.le
 have HD:Hid (MV z t=dV z t z.shifts (max 0 (rP z t))):=hide rfl
 clear hz
 go_enter Tryz.func242,Tryz.ntmps242
 go_wp2_with fail
 refine (zw _ A n c z (hx.below af) HZ.out t (by omega) (by omega)).mono ?_
 rintro e w1 ⟨rfl,hb1⟩
 have hbb:=aa af hb1
 have g0:=ah (b:=w.heap.size) (o:=0) (v:=.string z.name) hb1 (by simp) (by simp[go_sem])
 have g1:=ah (b:=w.heap.size) (o:=1) (v:=.int .i64 z.offset) hb1 (by simp) (by simp[go_sem])
 have g2:=ah (b:=w.heap.size) (o:=2) (v:=.slice A n c) hb1 (by simp) (by simp[go_sem])
 have hl1:w.heap.size<w1.heap.size:=lt_of_cell g0
 clear hb1
 go_wp2
 all_goals
  go_loopw [5,6] (λd i wr=> ∃(k:Nat) (q:Int),k<=n/\i=.int .i64 k/\d=.int .i64 q/\dV z t z.shifts (max 0 (rP z t))=dV z t (z.shifts.drop k) q/\Below w1.heap.size w1 wr) (λ_ i _=>n-(intOf i).toNat)
  case atStart=>exact ⟨0,_,Nat.zero_le _,rfl,rfl,by first|rfl|(rw[List.drop_zero];congr 1;omega),Below.refl _ _⟩
  case round=>
   obtain ⟨k,q,hk,rfl,rfl,heq,hb⟩:=hrel
   have HE:=hide heq
   have HB:=hide hb
   have p0:=ah hb hl1 g0
   have p1:=ah hb hl1 g1
   have p2:=ah hb hl1 g2
   have hlr:w.heap.size<wr.heap.size:=lt_of_cell p0
   clear heq hb
   by_cases hlt:k<n
   ·obtain ⟨b,off,x,rfl,Yu,HX,f0,f1,f2,f3⟩:=(hx.below (aa hbb HB.out)).shift hlt
    have hxb:=HB1.out x (List.mem_of_mem_drop (i:=k) (by rw[HX.out];simp))
    obtain ⟨_,_,x1,x2⟩:=hxb
    have k0:(0:Int)<=(k:Int):=by omega
    have k1:(k:Int)<(n:Int):=by omega
    have hw:IntKind.i64.wrap (x.at_-1)=x.at_-1:=IntWalk.i64_in _ (by omega)
    by_cases hs:x.at_<=t
    ·have HN:Hid (dV z t z.shifts (max 0 (rP z t))=dV z t (z.shifts.drop (k+1)) (max q (rP z (x.at_-1)))):=hide (by rw[HE.out,HX.out,dV,if_pos hs])
     go_wp2
     go_region_held3 (λV=>V.cell? ⟨w.heap.size,0,none⟩=some (.string z.name)/\V.cell? ⟨w.heap.size,1,none⟩=some (.int .i64 z.offset)/\V.cell? ⟨w.heap.size,2,none⟩=some (.slice (some ⟨b,off,none⟩) n c)/\V.cell? ⟨b,off+k*2,none⟩=some (.int .i64 x.at_)) (first|exact ⟨p0,p1,p2,f0⟩|exact ⟨ah hq2 hlr p0,ah hq2 hlr p1,ah hq2 hlr p2,ah hq2 Yu f0⟩) (first|(go_at_call 254;(try rw[hw]);refine (zw _ _ n c z (hx.below ((aa hbb HB.out).drew)) HZ.out (x.at_-1) (by omega) (by omega)).mono ?_;rintro e w2 ⟨rfl,hb2⟩;have hq2:=ag hb2;clear hb2))
     have HB2:=hide (aa HB.out hq2)
     go_wp2
     all_goals
      go_roundw
      case rel=>exact ⟨k+1,_,by omega,by go_num,rfl,by first|exact HN.out|(rw[HN.out];congr 1;omega),HB2.out⟩
      case measure=>simp[intOf];omega
    ·have HN:Hid (dV z t z.shifts (max 0 (rP z t))=dV z t (z.shifts.drop (k+1)) q):=hide (by rw[HE.out,HX.out,dV,if_neg hs])
     go_wp2
     go_roundw
     case rel=>exact ⟨k+1,q,by omega,by go_num,rfl,HN.out,HB.out⟩
     case measure=>simp[intOf];omega
   ·go_wp2
    go_ret
    exact ⟨ak (by rw[HD.out,HE.out,aP hx.len (by omega),dV]),aa hbb HB.out⟩
theorem I9 (w:World)(A:Option Addr)(n c:Nat)(z:Zone)(hx:In w A n c z.shifts)(hz:aJ z=0)(t:Int)(ht0:0<=t)(ht1:t<=575999999):
  Calls Tryz.prog 214 #[.agg #[.string z.name,.int .i64 z.offset,.slice A n c],.int .i64 t] w λe w'=>e=.returned (.int .i64 (uK z t))/\Below w.heap.size w w':=by
 have HB1:=hide (vC hz).2
 have hoff:=(vC hz).1
 have h63:=hx.le
 obtain ⟨nm,jc,xs⟩:=z
 simp only at hx hoff⊢
 have HD:Hid (uK ⟨nm,jc,xs⟩ t=fP t xs 0 jc):=hide rfl
 clear hz
 go_enter Tryz.func214,Tryz.ntmps214
 go_wp2
 obtain ⟨w1,hw1⟩: ∃w1,w1=w.alloc (.cells #[.string nm,.int .i64 jc,.slice A n c] 101):=⟨_,rfl⟩
 have g0:w1.cell? ⟨w.heap.size,0,none⟩=some (.string nm):=by rw[hw1];simp[go_sem]
 have g1:w1.cell? ⟨w.heap.size,1,none⟩=some (.int .i64 jc):=by rw[hw1];simp[go_sem]
 have g2:w1.cell? ⟨w.heap.size,2,none⟩=some (.slice A n c):=by rw[hw1];simp[go_sem]
 have hb1:Below w.heap.size w w1:=by rw[hw1];exact af
 rw[<-hw1]
 clear hw1
 go_quiet (fail)
 go_wp2
 go_loopw [5,6,14] (λd o i wr=> ∃(k:Nat) (q r:Int),k<=n/\i=.int .i64 k/\d=.int .i64 q/\o=.int .i64 r/\(-840<=r/\r<=840)/\fP t xs 0 jc=fP t (xs.drop k) q r/\Below w.heap.size w wr) (λ_ _ i _=>n-(intOf i).toNat)
 case atStart=>exact ⟨0,0,jc,Nat.zero_le _,rfl,rfl,rfl,hoff,rfl,below_drewN hb1 _⟩
 case round=>
  obtain ⟨k,q,r,hk,rfl,rfl,rfl,⟨hr0,hr1⟩,heq,hb⟩:=hrel
  have HE:=hide heq
  have HB:=hide hb
  clear heq hb
  by_cases hlt:k<n
  ·obtain ⟨b,off,x,rfl,Yu,HX,f0,f1,f2,f3⟩:=(hx.below HB.out).shift hlt
   obtain ⟨x1,x2,x3,x4⟩:=HB1.out x (List.mem_of_mem_drop (i:=k) (by rw[HX.out];simp))
   have k0:(0:Int)<=(k:Int):=by omega
   have k1:(k:Int)<(n:Int):=by omega
   have hw:IntKind.i64.wrap (x.at_-1)=x.at_-1:=IntWalk.i64_in _ (by omega)
   by_cases hs:t<x.at_
   ·have HN:Hid (fP t xs 0 jc=max q (gV t r)):=hide (by rw[HE.out,HX.out,fP,if_pos hs])
    go_wp2_with (go_at_call 238;refine (wm _ _ (by omega) (by omega) hr0 hr1 _).mono ?_;rintro e w' ⟨rfl,rfl⟩)
    all_goals
     go_ret
     exact ⟨ak (by rw[HD.out,HN.out];first|rfl|omega),aa HB.out af⟩
   ·have HN:Hid (fP t xs 0 jc=fP t (xs.drop (k+1)) (max q (gV (x.at_-1) r)) x.offset):=hide (by rw[HE.out,HX.out,fP,if_neg hs])
    go_wp2
    go_region_held3 (λV=>V.cell? ⟨wr.heap.size,0,none⟩=some (.int .i64 x.at_)/\V.cell? ⟨wr.heap.size,1,none⟩=some (.int .i64 x.offset)) (first|go_keep|fail) (first|(go_at_call 238;(try rw[hw]);refine (wm _ _ (by omega) (by omega) hr0 hr1 _).mono ?_;rintro e w' ⟨rfl,rfl⟩))
    go_wp2
    all_goals
     go_roundw
     case rel=>exact ⟨k+1,_,_,by omega,by go_num,rfl,rfl,⟨x1,x2⟩,by first|exact HN.out|(rw[HN.out];congr 1;omega),below_drewN (aa HB.out af) _⟩
     case measure=>simp[intOf];omega
  ·have HN:Hid (fP t xs 0 jc=max q (gV t r)):=hide (by rw[HE.out,aP hx.len (by omega),fP])
   go_wp2_with (go_at_call 238;refine (wm _ _ (by omega) (by omega) hr0 hr1 _).mono ?_;rintro e w' ⟨rfl,rfl⟩)
   all_goals
    go_ret
    exact ⟨ak (by rw[HD.out,HN.out];first|rfl|omega),HB.out⟩
theorem Og (w:World)(A:Option Addr)(n c:Nat)(z:Zone)(hx:In w A n c z.shifts)(ho:ig z.offset)(t:Int):
  Calls Tryz.prog 179 #[.agg #[.string z.name,.int .i64 z.offset,.slice A n c],.int .i64 t] w λe w'=>e=.returned (.tuple #[.int .i64 (nU z t).1,.int .i64 (nU z t).2])/\Below w.heap.size w w':=by
 go_enter Tryz.func179,Tryz.ntmps179
 go_wp2_with fail
 refine (Ha _ A n c z (hx.below af) ho t).mono ?_
 rintro e w1 ⟨rfl,hb1⟩
 have hbb:=aa af hb1
 have g0:=ah (b:=w.heap.size) (o:=0) (v:=.string z.name) hb1 (by simp) (by simp[go_sem])
 have g1:=ah (b:=w.heap.size) (o:=1) (v:=.int .i64 z.offset) hb1 (by simp) (by simp[go_sem])
 have g2:=ah (b:=w.heap.size) (o:=2) (v:=.slice A n c) hb1 (by simp) (by simp[go_sem])
 clear hb1
 by_cases h0:gu z t=0
 ·have HD:Hid (nU z t=(uK z t,0)):=hide (by rw[nU,if_neg (by simp[h0])])
  have h1:aJ z=0/\0<=t/\t<=575999999:=by
   rw[gu]at h0
   split at h0
   ·omega
   ·split at h0
    ·omega
    ·omega
  obtain ⟨h1,h2,h3⟩:=h1
  have H1:=hide h1
  rw[h0]
  clear h0 h1
  go_wp2_with fail
  refine (I9 _ A n c z (hx.below hbb) H1.out t h2 h3).mono ?_
  rintro e w2 ⟨rfl,hb2⟩
  go_wp2
  go_ret2
  exact ⟨by rw[HD.out];rfl,aa hbb hb2⟩
 ·have HD:Hid (nU z t=(0,gu z t)):=hide (by rw[nU,if_pos h0])
  have q:(gu z t != 0)=true:=by simpa using h0
  clear h0
  go_wp2
  go_ret2
  exact ⟨by rw[HD.out];rfl,hbb⟩
theorem Oh (w:World)(A:Option Addr)(n c:Nat)(z:Zone)(hx:In w A n c z.shifts)(ho:ig z.offset)(t:Int):
  Calls Tryz.prog 224 #[.agg #[.string z.name,.int .i64 z.offset,.slice A n c],.int .i64 t] w λe w'=>e=.returned (.tuple #[.int .i64 (nU z t).1,.int .i64 (nU z t).2])/\Below w.heap.size w w':=by
 go_enter Tryz.func224,Tryz.ntmps224
 go_wp2_with fail
 refine (Hd _ A n c z (hx.below af) ho t).mono ?_
 rintro e w1 ⟨rfl,hb1⟩
 have hbb:=aa af hb1
 have g0:=ah (b:=w.heap.size) (o:=0) (v:=.string z.name) hb1 (by simp) (by simp[go_sem])
 have g1:=ah (b:=w.heap.size) (o:=1) (v:=.int .i64 z.offset) hb1 (by simp) (by simp[go_sem])
 have g2:=ah (b:=w.heap.size) (o:=2) (v:=.slice A n c) hb1 (by simp) (by simp[go_sem])
 clear hb1
 by_cases h0:gu z t=0
 ·have h1:aJ z=0/\0<=t/\t<=575999999:=by
   rw[gu]at h0
   split at h0
   ·omega
   ·split at h0
    ·omega
    ·omega
  obtain ⟨h1,h2,h3⟩:=h1
  have HD:Hid (nU z t=(MV z t,0)):=hide (by rw[nU,if_neg (by simp[h0]),Q7 h1])
  have H1:=hide h1
  rw[h0]
  clear h0 h1
  go_wp2_with fail
  refine (Lm _ A n c z (hx.below hbb) H1.out t h2 h3).mono ?_
  rintro e w2 ⟨rfl,hb2⟩
  go_wp2
  go_ret2
  exact ⟨by rw[HD.out];rfl,aa hbb hb2⟩
 ·have HD:Hid (nU z t=(0,gu z t)):=hide (by rw[nU,if_pos h0])
  have q:(gu z t != 0)=true:=by simpa using h0
  clear h0
  go_wp2
  go_ret2
  exact ⟨by rw[HD.out];rfl,hbb⟩
def Has (k:Kd)(v:Val):Prop:=valid v=true/\(v.kind=k.kind\/(v.kind=0/\k.null=true))
def jh (k:Kd):Prop:=0<=k.kind/\k.kind<=4/\(k.kind=0->k.null=true)
def l7:List Kd->List Val->Prop
 | [],[]=>True
 |k :: ks,v :: vs=>(jh k/\Has k v)/\l7 ks vs
 | _,_=>False
theorem l7.len: ∀{ks:List Kd} {vs:List Val},l7 ks vs->ks.length=vs.length
 | [],[],_=>rfl
 | _ :: _,_ :: _,h=>by rw[List.length_cons,List.length_cons,l7.len h.2]
 | [],_ :: _,h=>h.elim
 | _ :: _,[],h=>h.elim
theorem l7.take: ∀{ks:List Kd} {vs:List Val} (n:Nat),l7 ks vs->l7 (ks.take n) (vs.take n)
 | [],[],_,_=>by simp[l7]
 | _ :: _,_ :: _,0,_=>trivial
 | _ :: _,_ :: _,n+1,h=>⟨h.1,l7.take n h.2⟩
 | [],_ :: _,_,h=>h.elim
 | _ :: _,[],_,h=>h.elim
theorem l7.drop: ∀{ks:List Kd} {vs:List Val} (n:Nat),l7 ks vs->l7 (ks.drop n) (vs.drop n)
 | [],[],_,_=>by simp[l7]
 | _ :: _,_ :: _,0,h=>h
 | _ :: _,_ :: _,n+1,h=>l7.drop n h.2
 | [],_ :: _,_,h=>h.elim
 | _ :: _,[],_,h=>h.elim
theorem l7.push {k:Kd}{v:Val}(hk:jh k/\Has k v): ∀{ks:List Kd} {vs:List Val},l7 ks vs->l7 (ks++[k]) (vs++[v])
 | [],[],_=>⟨hk,trivial⟩
 | _ :: _,_ :: _,h=>⟨h.1,l7.push hk h.2⟩
 | [],_ :: _,h=>h.elim
 | _ :: _,[],h=>h.elim
theorem l7.valid: ∀{ks:List Kd} {vs:List Val},l7 ks vs-> ∀v∈vs,valid v=true
 | [],[],_,_,h=>by cases h
 |k :: ks,x :: vs,h,v,hv=>by
  rcases List.mem_cons.1 hv with rfl|hv
  ·exact h.1.2.1
  ·exact l7.valid h.2 v hv
 | [],_ :: _,h,_,_=>h.elim
 | _ :: _,[],h,_,_=>h.elim
theorem Ct:(⟨#[]⟩:ByteArray).toList=[]:=by rw[ByteArray.toList_eq]
theorem nJ:fJ ⟨#[]⟩=true:=by rw[fJ,Ct];rfl
theorem lh:valid aW=true:=by simp[valid,aW,nJ]
theorem gX (b:Bool):valid (dM b)=true:=by cases b <;> simp[valid,dM,nJ]
theorem mU (n:Int)(ok:Bool)(h:ok=true->bV n=true):valid (ed n ok)=true:=by
 cases ok
 ·exact lh
 ·have:=h rfl
  simp[bV]at this
  simp[ed,valid,nJ]
  omega
theorem zS (n:Int):valid (lY n)=true:=by
 rw[lY]
 split
 ·exact lh
 ·simp[valid,nJ];omega
theorem JU {a b:Int}:(pg a b).2=true->bV (pg a b).1=true:=by
 rw[pg];split
 ·rename_i h;intro _;simp[Bool.and_eq_true]at h;exact h.2
 ·intro h;cases h
theorem wy {a b:Int}:(iD a b).2=true->bV (iD a b).1=true:=by
 rw[iD];split
 ·rename_i h;intro _;simp[Bool.and_eq_true]at h;exact h.2
 ·intro h;cases h
theorem JX {a b:Int}:(pQ a b).2=true->bV (pQ a b).1=true:=by
 rw[pQ];split
 ·rename_i h;intro _;simp[Bool.and_eq_true]at h;exact h.2
 ·intro h;cases h
theorem OY {a b:Int}(ha: -1073741824<=a/\a<=1073741824)(hb:b≠0): -1073741824<=a.fdiv b/\a.fdiv b<=1073741824:=by
 have key: ∀(a b:Int),0<b-> -1073741824<=a->a<=1073741824-> -1073741824<=a.fdiv b/\a.fdiv b<=1073741824:=by
  intro a b hb h1 h2
  rw[Int.fdiv_eq_ediv_of_nonneg _ (by omega)]
  constructor
  ·rw[Int.le_ediv_iff_mul_le hb]
   have:(-1073741824:Int)*b<= -1073741824*1:=Int.mul_le_mul_of_nonpos_left (by omega) (by omega)
   omega
  ·have:a / b<1073741825:=by
    rw[Int.ediv_lt_iff_lt_mul hb]
    have:(1073741825:Int)*1<=1073741825*b:=Int.mul_le_mul_of_nonneg_left (by omega) (by omega)
    omega
   omega
 rcases Int.lt_or_gt_of_ne hb with h|h
 ·have:=key (-a) (-b) (by omega) (by omega) (by omega)
  rw[Int.neg_fdiv_neg]at this
  exact this
 ·exact key a b (by omega) ha.1 ha.2
theorem OZ {a b:Int}(hb: -1073741824<=b/\b<=1073741824)(h0:b≠0): -1073741824<=a.fmod b/\a.fmod b<=1073741824:=by
 rcases Int.lt_or_gt_of_ne h0 with h|h
 ·have h1:=Int.fmod_nonneg_of_pos (-a) (b:= -b) (by omega)
  have h2:=Int.fmod_lt_of_pos (-a) (b:= -b) (by omega)
  rw[Int.neg_fmod_neg]at h1 h2
  omega
 ·have h1:=Int.fmod_nonneg_of_pos a (b:=b) (by omega)
  have h2:=Int.fmod_lt_of_pos a (b:=b) (by omega)
  omega
theorem JV {a b:Int}:(lU a b).2=true->bV (lU a b).1=true:=by
 rw[lU];split
 ·rename_i h;intro _
  simp[bV]at h
  have:=OY (a:=a) (b:=b) (by omega) h.2
  simp[bV];omega
 ·intro h;cases h
theorem JW {a b:Int}:(mi a b).2=true->bV (mi a b).1=true:=by
 rw[mi];split
 ·rename_i h;intro _
  simp[bV]at h
  have:=OZ (a:=a) (b:=b) (by omega) h.2
  simp[bV];omega
 ·intro h;cases h
theorem rA {t o:Int}(ht:t<=575999999)(ho:o<=840):gV t o<=400001:=by
 unfold gV;split <;> omega
theorem yL {t:Int}(ht:t<=575999999): ∀(l:List Shift) (best o:Int),(∀s∈l,s.offset<=840/\s.at_<=575999999)->o<=840->0<=best->best<=400001->0<=fP t l best o/\fP t l best o<=400001
 | [],best,o,_,ho,h0,h1=>by
  have:=rA ht ho
  rw[fP];omega
 |s :: l,best,o,h,ho,h0,h1=>by
  have hs:=h s (by simp)
  have h2:=rA ht ho
  have h3:=rA (t:=s.at_-1) (o:=o) (by omega) ho
  rw[fP]
  split
  ·omega
  ·exact yL ht l _ _ (λq hq=>h q (by simp[hq])) hs.1 (by omega) (by omega)
theorem Ll {z:Zone}(hz:aJ z=0){t:Int}(ht:t<=575999999):0<=uK z t/\uK z t<=400001:=by
 obtain ⟨h1,h2⟩:=vC hz
 exact yL ht z.shifts 0 z.offset (λs hs=>⟨(h2 s hs).2.1,(h2 s hs).2.2.2⟩) (by omega) (by omega) (by omega)
theorem F3 (z:Zone)(t:Int):bV (nU z t).1=true:=by
 rw[nU]
 split
 ·rfl
 ·rename_i h
  have h:gu z t=0:=by omega
  rw[gu]at h
  split at h
  ·omega
  ·split at h
   ·omega
   ·have:=Ll (z:=z) (by omega) (t:=t) (by omega)
    simp[bV];omega
theorem jw {v:Val}(h:valid v=true):v.ok:=by
 obtain ⟨k,n,s⟩:=v
 have e: ∀s:ByteArray,fJ s=true->Str s:=by
  intro s hs
  rw[fJ,List.isEmpty_iff]at hs
  have:s.size=s.toList.length:=by rw[ByteArray.toList_eq];rfl
  unfold Str;rw[this,hs];exact Nat.zero_le _
 rw[valid]at h
 simp only at h
 refine ⟨?_,?_,?_⟩ <;> simp only
 ·unfold ig;(repeat' split at h) <;> first|omega|(subst_vars;omega)|(cases h)
 ·unfold ig;(repeat' split at h) <;> simp at h <;> omega
 ·(repeat' split at h) <;> simp at h <;> first|exact e _ h.2|exact e _ h.1|(unfold Str;omega)
theorem G9 {v:Val}(h:valid v=true):0<=v.kind/\v.kind<=4:=by
 rw[valid]at h
 (repeat' split at h) <;> first|omega|(cases h)
theorem AQ {v:Val}(h:valid v=true)(h0:v.kind=0):v=aW:=by
 obtain ⟨k,n,s⟩:=v
 simp only at h0
 subst h0
 simp[valid,fJ]at h
 obtain ⟨h1,h2⟩:=h
 subst h1
 have:s=⟨#[]⟩:=by
  rw[ByteArray.toList_eq]at h2
  obtain ⟨⟨l⟩⟩:=s
  simp at h2
  subst h2
  rfl
 subst this
 rfl
theorem qX {k:Kd}{v:Val}(hk:jh k)(h:Has k v)(h0:v.kind=0):k.null=true:=by
 rcases h.2 with h1|h1
 ·exact hk.2.2 (by omega)
 ·exact h1.2
theorem ow {k:Kd}{v:Val}(hk:jh k)(h:Has k v){j:Int}(hf:fits k j=true):v.kind=j\/v.kind=0:=by
 simp[fits]at hf
 rcases h.2 with h1|h1
 ·omega
 ·exact .inr h1.1
theorem gL {k:Int}{b:Bool}{v:Val}(hv:valid v=true)(h:v.kind=k\/(v.kind=0/\b=true)):Has ⟨k,b⟩ v:=⟨hv,h⟩
theorem oz {k:Kd}(h:k.null=true):Has k aW:=⟨lh,.inr ⟨rfl,h⟩⟩
theorem JB (n:Int)(ok:Bool):(ed n ok).kind=2\/(ed n ok).kind=0:=by cases ok <;> simp[ed,aW]
theorem Bz (n:Int):(lY n).kind=4\/(lY n).kind=0:=by rw[lY];split <;> simp[aW]
theorem vN {x y:Kd}(h:(common x y).2=true):(x.kind=(common x y).1\/x.kind=0)/\(y.kind=(common x y).1\/y.kind=0):=by
 rw[common]at h⊢
 split
 ·rename_i h0;exact ⟨.inr h0,.inl rfl⟩
 ·rename_i h0
  rw[if_neg h0]at h
  simp[fits]at h
  exact ⟨.inl rfl,h⟩
theorem yJ {x y:Kd}(hx:jh x)(hy:jh y):0<=(common x y).1/\(common x y).1<=4:=by
 rw[common];split
 ·exact ⟨hy.1,hy.2.1⟩
 ·exact ⟨hx.1,hx.2.1⟩
theorem wL {x y:Kd}(h:(common x y).2=true)(h0:(common x y).1=0):x.kind=0/\y.kind=0:=by
 have:=vN h
 omega
theorem M8 {zs:List Zone}{op:Int}{nm:ByteArray}{x:Kd}{v:Val}(hop:op=2\/op=3\/op=16\/op=19\/op=20)(hx:jh x)(hv:Has x v)(h:(ek op x).2=true):
  jh (ek op x).1/\Has (ek op x).1 (xP zs op nm v):=by
 by_cases h0:v.kind=0
 ·have hn:=qX hx hv h0
  rcases hop with rfl|rfl|rfl|rfl|rfl
  ·simp[ek,xP,h0,jh];exact oz hn
  ·simp[ek,xP,h0,jh];exact oz hn
  ·simp[ek,xP,h0,jh];exact gL (gX _) (.inl rfl)
  ·simp[ek,xP,h0,jh];exact oz hn
  ·simp[ek,xP,h0,jh];exact oz hn
 ·rcases hop with rfl|rfl|rfl|rfl|rfl
  ·simp[ek,xP,h0,jh];exact gL (gX _) (.inl rfl)
  ·have hk:=(ow hx hv (j:=2) (by simpa[ek] using h)).resolve_right h0
   have hs:(iD 0 v.num).2=true:=by
    have h1:=hv.1
    rw[valid,if_neg h0,if_neg (by omega),if_pos hk]at h1
    simp at h1
    rw[iD,if_pos (by simp[bV];omega)]
   simp[ek,xP,h0,jh,hs]
   exact gL (mU _ _ λ_=>wy hs) (.inl rfl)
  ·simp[ek,xP,h0,jh];exact gL (gX _) (.inl rfl)
  ·have hk:=(ow hx hv (j:=3) (by simpa[ek] using h)).resolve_right h0
   have hs:v.str.size<=64:=by
    have h1:=hv.1
    rw[valid,if_neg h0,if_neg (by omega),if_neg (by omega),if_pos hk]at h1
    simp at h1
    exact h1.2
   simp[ek,xP,h0,jh]
   exact gL (mU _ _ λ_=>by simp[bV];omega) (.inl rfl)
  ·simp[ek,xP,h0,jh]
   exact gL (mU _ _ λ_=>F3 _ _) (.inl rfl)
theorem wX {a b:Val}{s:Int}{x y:Kd}(hx:jh x)(ha:Has x a)(hy:jh y)(hb:Has y b)(fx:fits x 1=true)(fy:fits y 1=true):Has ⟨1,x.null || y.null⟩ (dU a b s):=by
 rw[dU]
 split
 ·exact gL (gX _) (.inl rfl)
 ·split
  ·rename_i h1 h2
   refine gL lh (.inr ⟨rfl,?_⟩)
   have key: ∀{k:Kd} {v:Val},jh k->Has k v->fits k 1=true->truth v<0->k.null=true:=by
    intro k v hk hv hf ht
    rcases ow hk hv hf with h3|h3
    ·exfalso
     rw[truth,if_pos ⟨h3,hv.1⟩]at ht
     have h4:=hv.1
     rw[valid,if_neg (by omega),if_pos h3]at h4
     simp at h4
     omega
    ·exact qX hk hv h3
   rcases h2 with h2|h2
   ·rw[key hx ha fx h2];rfl
   ·rw[key hy hb fy h2];simp
  ·exact gL (gX _) (.inl rfl)
theorem IU {zs:List Zone}{n:Node}{x y:Kd}{a b:Val}(hop:(4<=n.op/\n.op<=15)\/n.op=18)(hx:jh x)(ha:Has x a)(hy:jh y)(hb:Has y b)(h:(aO n.op x y).2=true):
  jh (aO n.op x y).1/\Has (aO n.op x y).1 (eO zs n [a,b]):=by
 obtain ⟨op,v,nm,ar⟩:=n
 simp only at hop h⊢
 by_cases Nk:op=14
 ·subst Nk
  simp[aO]at h
  simp[aO,eO,jh]
  exact wX hx ha hy hb h.1 h.2
 by_cases Nl:op=15
 ·subst Nl
  simp[aO]at h
  simp[aO,eO,jh]
  exact wX hx ha hy hb h.1 h.2
 by_cases h18:op=18
 ·subst h18
  simp[aO]at h
  have hc:=vN h
  have hr:=yJ hx hy
  have hz:=wL h
  simp only[aO,eO]
  refine ⟨⟨hr.1,hr.2,λh0=>?_⟩,?_⟩
  ·simp only[Int.reduceEq,or_self,if_false,if_true]at h0⊢
   have:=hz h0
   simp[hx.2.2 this.1,hy.2.2 this.2]
  ·simp only[Int.reduceEq,or_self,if_false,if_true]
   by_cases ha0:a.kind=0
   ·rw[if_pos ha0]
    have XN:=qX hx ha ha0
    refine gL hb.1 ?_
    rcases hb.2 with h1|h1
    ·rcases hc.2 with h2|h2
     ·exact .inl (by omega)
     ·exact .inr ⟨by omega,by simp[XN,hy.2.2 h2]⟩
    ·exact .inr ⟨h1.1,by simp[XN,h1.2]⟩
   ·rw[if_neg ha0]
    refine gL ha.1 ?_
    rcases ha.2 with h1|h1
    ·rcases hc.1 with h2|h2
     ·exact .inl (by omega)
     ·omega
    ·omega
 have hop':4<=op/\op<=13:=by omega
 have hko:jh (aO op x y).1:=by
  have h4:op=4\/op=5\/op=6\/op=7\/op=8\/op=9\/op=10\/op=11\/op=12\/op=13:=by omega
  rcases h4 with rfl|rfl|rfl|rfl|rfl|rfl|rfl|rfl|rfl|rfl <;> simp[aO] <;> (repeat' split) <;> simp[jh]
 refine ⟨hko,?_⟩
 simp only[eO]
 rw[if_neg Nk,if_neg Nl,if_neg h18]
 by_cases h0:a.kind=0\/b.kind=0
 ·rw[if_pos h0]
  refine oz ?_
  have hn:x.null=true\/y.null=true:=by
   rcases h0 with h0|h0
   ·exact .inl (qX hx ha h0)
   ·exact .inr (qX hy hb h0)
  have hn':(x.null || y.null)=true:=by simpa using hn
  have h4:op=4\/op=5\/op=6\/op=7\/op=8\/op=9\/op=10\/op=11\/op=12\/op=13:=by omega
  rcases h4 with rfl|rfl|rfl|rfl|rfl|rfl|rfl|rfl|rfl|rfl <;> simp[aO] <;> (repeat' split) <;> first|exact hn'|rfl|(simp;done)|simpa using hn
 ·rw[if_neg h0]
  have ha0:a.kind≠0:=λq=>h0 (.inl q)
  have hb0:b.kind≠0:=λq=>h0 (.inr q)
  have hax:a.kind=x.kind:=ha.2.resolve_right λq=>ha0 q.1
  have hby:b.kind=y.kind:=hb.2.resolve_right λq=>hb0 q.1
  have num: ∀n ok,(ok=true->bV n=true)->Has ⟨2,true⟩ (ed n ok):=λn ok hh=>gL (mU n ok hh) ((JB n ok).elim .inl λq=>.inr ⟨q,rfl⟩)
  have h4:op=4\/op=5\/op=6\/op=7\/op=8\/op=9\/op=10\/op=11\/op=12\/op=13:=by omega
  rcases h4 with rfl|rfl|rfl|rfl|rfl|rfl|rfl|rfl|rfl|rfl
  ·simp only[aO,dY,bQ,Int.reduceEq,or_self,if_false,if_true]
   by_cases hx4:x.kind=4
   ·rw[if_pos hx4,if_pos (by omega)]
    exact gL (zS _) ((Bz _).elim .inl λq=>.inr ⟨q,rfl⟩)
   ·rw[if_neg hx4,if_neg (by omega)]
    exact num _ _ JU
  ·simp only[aO,dY,bQ,Int.reduceEq,or_self,if_false,if_true]at h⊢
   by_cases hy4:y.kind=4
   ·rw[if_pos hy4]at h⊢
    have hx4:a.kind=4:=(ow hx ha h).resolve_right ha0
    rw[if_neg (by omega)]
    have va:=ha.1
    have vb:=hb.1
    rw[valid,if_neg ha0,if_neg (by omega),if_neg (by omega),if_neg (by omega),if_pos hx4]at va
    rw[valid,if_neg hb0,if_neg (by omega),if_neg (by omega),if_neg (by omega),if_pos (by omega)]at vb
    simp at va vb
    have hs:(iD a.num b.num).2=true:=by rw[iD,if_pos (by simp[bV];omega)]
    rw[hs]
    exact gL (mU _ _ λ_=>wy hs) (.inl rfl)
   ·rw[if_neg hy4]at h⊢
    by_cases hx4:x.kind=4
    ·rw[if_pos hx4]at h⊢
     have hb2:b.kind=2:=(ow hy hb h).resolve_right hb0
     rw[if_pos ⟨by omega,hb2⟩]
     exact gL (zS _) ((Bz _).elim .inl λq=>.inr ⟨q,rfl⟩)
    ·rw[if_neg hx4]at h⊢
     rw[if_neg (by omega)]
     exact num _ _ wy
  ·simp only[aO,dY,bQ,Int.reduceEq,or_self,or_false,false_or,or_true,true_or,if_false,if_true]
   exact num _ _ JX
  ·simp only[aO,dY,bQ,Int.reduceEq,or_self,or_false,false_or,or_true,true_or,if_false,if_true]
   exact num _ _ JV
  ·simp only[aO,dY,bQ,Int.reduceEq,or_self,or_false,false_or,or_true,true_or,if_false,if_true]
   exact num _ _ JW
  ·simp only[aO,dY,Int.reduceEq,or_self,if_false,if_true]
   split
   ·exact oz rfl
   ·rename_i hs
    exact gL (by simp[valid];simpa using hs) (.inl rfl)
  ·simp only[aO,dY,Int.reduceEq,or_self,if_false,if_true]
   exact gL (gX _) (.inl rfl)
  ·simp only[aO,dY,Int.reduceEq,or_self,if_false,if_true]
   exact gL (gX _) (.inl rfl)
  ·simp only[aO,dY,Int.reduceEq,or_self,if_false,if_true]
   exact gL (gX _) (.inl rfl)
  ·simp only[aO,dY,Int.reduceEq,or_self,if_false,if_true]
   exact gL (gX _) (.inl rfl)
theorem Mq {zs:List Zone}{n:Node}{y z:Kd}{a b c:Val}{m:List Val}(hy:jh y)(hb:Has y b)(hz:jh z)(hc:Has z c)(h:(common y z).2=true):
  jh ⟨(common y z).1,y.null || z.null⟩/\Has ⟨(common y z).1,y.null || z.null⟩ (eO zs n (a :: b :: c :: m)):=by
 have hcm:=vN h
 have hr:=yJ hy hz
 have h0:=wL h
 refine ⟨⟨hr.1,hr.2,λq=>?_⟩,?_⟩
 ·have:=h0 q
  simp[hy.2.2 this.1]
 ·have one: ∀{k:Kd} {v:Val},jh k->Has k v->(k.kind=(common y z).1\/k.kind=0)->(k.null=true->(y.null || z.null)=true)->Has ⟨(common y z).1,y.null || z.null⟩ v:=by
   intro k v hk hv hcm hn
   refine gL hv.1 ?_
   rcases hv.2 with h1|h1
   ·rcases hcm with h2|h2
    ·exact .inl (by omega)
    ·exact .inr ⟨by omega,hn (hk.2.2 h2)⟩
   ·exact .inr ⟨h1.1,hn h1.2⟩
  simp only[eO]
  split
  ·exact one hy hb hcm.1 (λq=>by simp[q])
  ·exact one hz hc hcm.2 (λq=>by simp[q])
def xg (at_:Int)(z:Zone)(rows:List Ent)(d:Int):List Ent:=rows.filter λx=>qL at_ z x.row != d
def II (at_:Int)(z:Zone)(old new:List Ent)(ds:List Int):Prop:=
 Asc ds/\ ∀d,d∈ds↔nK at_ z old d≠nK at_ z new d
theorem nS {b:List Ent}(h:aX b=0)(p:Ent->Bool):aX (b.filter p)=0:=by
 obtain ⟨h1,h2,h3⟩:=kR.1 h
 exact kR.2 ⟨Nat.le_trans (List.length_filter_le _ _) h1,λx hx=>h2 x (List.mem_filter.1 hx).1,h3.filter p⟩
theorem yC {b:List Ent}(h:aX b=0): ∀x∈b,dw x=0:=λx hx=>((kR.1 h).2.1 x hx).1
theorem sO {p:Ent->Bool}{l:List Ent}{r:List Val}(h: ∀x∈l,x.row=r->p x=true):cnt (l.filter p) r=cnt l r:=by
 induction l with
 |nil=>rfl
 |cons x l ih=>
  have ih:=ih λy hy=>h y (by simp[hy])
  by_cases q:p x=true
  ·rw[List.filter_cons_of_pos q,cnt,cnt,ih]
  ·rw[List.filter_cons_of_neg q,cnt,ih,if_neg]
   ·omega
   ·intro e;exact q (h x (by simp) (dP.1 e))
theorem sN {p:Ent->Bool}{l:List Ent}{r:List Val}(h: ∀x∈l,x.row=r->p x=false):cnt (l.filter p) r=0:=by
 refine kz λx hx e=>?_
 obtain ⟨h1,h2⟩:=List.mem_filter.1 hx
 rw[h x h1 (dP.1 e)]at h2
 cases h2
theorem I5 {at_:Int}{z:Zone}{l:List Ent}{d:Int}{r:List Val}:cnt (xg at_ z l d) r=if qL at_ z r=d then 0 else cnt l r:=by
 split
 ·rename_i h;exact sN λx _ e=>by rw[e,h];simp
 ·rename_i h;exact sO λx _ e=>by rw[e];simpa using h
theorem vM {at_:Int}{z:Zone}{l:List Ent}{d:Int}{r:List Val}:cnt (nK at_ z l d) r=if qL at_ z r=d then cnt l r else 0:=by
 split
 ·rename_i h;exact sO λx _ e=>by rw[e];simpa using h
 ·rename_i h;exact sN λx _ e=>by rw[e];simpa using h
structure Mixed (at_:Int) (z:Zone) (old new now:List Ent) (done:List Int):Prop where
 bag:aX now=0
 cnt: ∀r,cnt now r=if qL at_ z r∈done then cnt new r else cnt old r
theorem Mixed.start {at_:Int}{z:Zone}{old new:List Ent}(h:aX old=0):Mixed at_ z old new old []:=⟨h,λr=>by simp⟩
theorem xU {b:List Ent}(h:aX b=0):R7 b:=λx hx=>((kR.1 h).2.1 x hx).2
theorem uA {b:List Ent}(h:aX b=0):jU b:=(kR.1 h).2.2
theorem Oa {a b:List Ent}(h:aX a=0)(h':aX b=0)(hc: ∀r,Proofs.YtggejcekmehocaaGreatDoor.cnt a r=Proofs.YtggejcekmehocaaGreatDoor.cnt b r):a=b:=Hw (uA h) (uA h') (xU h) (xU h') hc
theorem CY {b:List Ent}(h:aX b=0){r:List Val}:Proofs.YtggejcekmehocaaGreatDoor.cnt b r≠0↔ ∃x∈b,x.row=r:=by
 constructor
 ·intro q
  by_cases g: ∃x∈b,x.row=r
  ·exact g
  ·exact absurd (kz λx hx e=>g ⟨x,hx,dP.1 e⟩) q
 ·rintro ⟨x,hx,rfl⟩
  rw[(uA h).mem hx]
  exact xU h x hx
theorem JD {at_:Int}{z:Zone}{a b:List Ent}(h:aX a=0)(h':aX b=0){d:Int}(hc: ∀r,qL at_ z r=d->Proofs.YtggejcekmehocaaGreatDoor.cnt a r=Proofs.YtggejcekmehocaaGreatDoor.cnt b r):nK at_ z a d=nK at_ z b d:=
 Oa (nS h _) (nS h' _) λr=>by
  show Proofs.YtggejcekmehocaaGreatDoor.cnt (nK at_ z a d) r=Proofs.YtggejcekmehocaaGreatDoor.cnt (nK at_ z b d) r
  rw[vM,vM]
  split
  ·rename_i q;exact hc r q
  ·rfl
theorem Mixed.ne {at_:Int}{z:Zone}{old new now:List Ent}{ds done l:List Int}{d:Int}(h:Mixed at_ z old new now done)(ho:aX old=0)(hn:aX new=0)(hc:II at_ z old new ds)(e:ds=done++d :: l):now≠new:=by
 rintro rfl
 have h1:=(hc.2 d).1 (by rw[e];simp)
 apply h1
 refine JD ho hn λr hr=>?_
 have h2:=h.cnt r
 rw[if_neg]at h2
 ·exact h2.symm
 ·rw[hr]
  intro q
  have:=hc.1
  rw[e]at this
  have:=(List.pairwise_append.1 this).2.2 d q d (by simp)
  omega
theorem Ij {b:List Ent}(h:jU b)(hz:R7 b){l:List Ent}(hl: ∀r,Proofs.YtggejcekmehocaaGreatDoor.cnt b r≠0-> ∃x∈l,x.row=r):b.length<=l.length:=by
 have hnd:(b.map Ent.row).Nodup:=by
  rw[List.nodup_iff_pairwise_ne,List.pairwise_map]
  refine h.imp λ{x y} q e=>?_
  rw[e,dP.2 rfl]at q
  omega
 have hsub: ∀r∈b.map Ent.row,r∈l.map Ent.row:=λr hr=>by
  obtain ⟨x,hx,rfl⟩:=List.mem_map.1 hr
  obtain ⟨y,hy,e⟩:=hl x.row (by rw[h.mem hx];exact hz x hx)
  exact List.mem_map.2 ⟨y,hy,e⟩
 have:=hnd.length_le_of_subset hsub
 simpa using this
theorem Mixed.rows {at_:Int}{z:Zone}{old new now:List Ent}{done:List Int}(h:Mixed at_ z old new now done): ∀x∈now,∃y∈old++new,y.row=x.row:=λx hx=>by
 have h1:=(CY h.bag (r:=x.row)).2 ⟨x,hx,rfl⟩
 by_cases g: ∃y∈old++new,y.row=x.row
 ·exact g
 ·exfalso
  rw[h.cnt]at h1
  apply h1
  split
  ·exact kz λy hy e=>g ⟨y,by simp[hy],dP.1 e⟩
  ·exact kz λy hy e=>g ⟨y,by simp[hy],dP.1 e⟩
theorem Mixed.len {at_:Int}{z:Zone}{old new now:List Ent}{done:List Int}(h:Mixed at_ z old new now done):now.length<=(old++new).length:=
 Ij (uA h.bag) (xU h.bag) λr hr=>by
  obtain ⟨x,hx,rfl⟩:=(CY h.bag).1 hr
  exact h.rows x hx
theorem Mixed.step {at_:Int}{z:Zone}{old new now:List Ent}{done:List Int}{d:Int}(h:Mixed at_ z old new now done)(ho:aX old=0)(hn:aX new=0)(hl:(old++new).length<=4096):
  ∃nx,FX (xg at_ z now d++nK at_ z new d)=(0,nx)/\Mixed at_ z old new nx (done++[d]):=by
 have hc: ∀r,Proofs.YtggejcekmehocaaGreatDoor.cnt (xg at_ z now d++nK at_ z new d) r=if qL at_ z r∈done++[d] then Proofs.YtggejcekmehocaaGreatDoor.cnt new r else Proofs.YtggejcekmehocaaGreatDoor.cnt old r:=λr=>by
  rw[H8,I5,vM,h.cnt]
  by_cases q:qL at_ z r=d
  ·simp[q]
  ·simp[q]
 have hok: ∀x∈xg at_ z now d++nK at_ z new d,dw x=0:=λx hx=>by
  rcases List.mem_append.1 hx with hx|hx
  ·exact yC h.bag x (List.mem_filter.1 hx).1
  ·exact yC hn x (List.mem_filter.1 hx).1
 have Uq:jG 0 (iZ (xh (xg at_ z now d++nK at_ z new d)))=false:=by
  refine (tZ _ 0 (oH _) (by omega)).2 ⟨λx hx=>?_,?_⟩
  ·have h1:=(vZ (wC _)).mem hx
   rw[wh,wD,hc]at h1
   have hx0:=oH _ x hx
   have: ∀b:List Ent,aX b=0->Proofs.YtggejcekmehocaaGreatDoor.cnt b x.row=x.count-> -65536<=x.count/\x.count<=65536:=λb hb e=>by
    obtain ⟨y,hy,e2⟩:=(CY hb (r:=x.row)).1 (by rw[e];exact hx0)
    have:=(uA hb).mem hy
    rw[e2,e]at this
    have:=Ou (yC hb y hy)
    omega
   split at h1
   ·exact this new hn h1
   ·exact this old ho h1
  ·have:(iZ (xh (xg at_ z now d++nK at_ z new d))).length<=(old++new).length:=
    Ij (vZ (wC _)) (oH _) λr hr=>by
     rw[wh,wD,hc]at hr
     by_cases g: ∃y∈old++new,y.row=r
     ·exact g
     ·exfalso;apply hr
      split
      ·exact kz λy hy e=>g ⟨y,by simp[hy],dP.1 e⟩
      ·exact kz λy hy e=>g ⟨y,by simp[hy],dP.1 e⟩
   omega
 rw[rO]at Uq
 have hb:FX (xg at_ z now d++nK at_ z new d)=(0,iZ (xh (xg at_ z now d++nK at_ z new d))):=by rw[FX,Uq];simp
 have h1:=N9 hok
 rw[hb]at h1
 exact ⟨_,hb,h1,λr=>by rw[wh,wD,hc]⟩
theorem In.part {w:World}{A:Option Addr}{n c k:Nat}{xs:List Partn}(h:In w A n c xs)(hk:k<n): ∃b off x,A=some ⟨b,off,none⟩/\b<w.heap.size/\Hid (xs.drop k=x :: xs.drop (k+1))/\
  ∃A' n' c',w.cell? ⟨b,off+k*2,none⟩=some (.int .i64 x.day)/\w.cell? ⟨b,off+k*2+1,none⟩=some (.slice A' n' c')/\In w A' n' c' x.rows/\ig x.day:=by
 obtain ⟨b,off,x,e,hb,hx,cs,⟨A',n',c',rfl,hs,hv⟩,hc⟩:=h.get hk
 exact ⟨b,off,x,e,hb,hx,A',n',c',hc 0 (by simp),hc 1 (by simp),hs,hv⟩
end Go.Proofs.YtggejcekmehocaaGreatDoor
