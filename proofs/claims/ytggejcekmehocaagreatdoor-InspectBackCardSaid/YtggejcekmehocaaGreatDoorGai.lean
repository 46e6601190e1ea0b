/-
  Days of zones: Floor, local days, the checks. warehouseref4.offset and local. Plain functions of chapter 22: schemes, days of rows, partitions, as both texts compute them. No program is in sight. zone.dayAt, zone.Day, warehouseref4.Day: both days are dayS. Plain law of chapter 22: Pick, Replace, Changed and the sums of bags. No program is in sight. Plain law: the value of a well-typed expression fits its type; what each operator's operands then are. No program is in sight. Cells of partitions in a slice. No program is in sight.
-/
import Derived.Test.YtggejcekmehocaaGreatDoorGag
import Derived.Test.YtggejcekmehocaaGreatDoorGad
import Derived.Test.YtggejcekmehocaaGreatDoorGaa
namespace Go.Proofs.YtggejcekmehocaaGreatDoor
set_option maxHeartbeats 1000000
set_option maxRecDepth 100000
open Go.RowKit
set_option linter.unusedSimpArgs false
set_option linter.unusedVariables false
theorem local_any (t o:Int)(h1: -4611686018427387904<=t)(h2:t<=4611686018427387904)(h3: -840<=o)(h4:o<=840)(w:World):Calls Tryz.prog 238 #[.int .i64 t,.int .i64 o] w λe w'=>e=.returned (.int .i64 (localDay t o))/\w=w':=by
 by_cases h:t+o<0
 ·go_enter Tryz.func238,Tryz.ntmps238
  go_wp2
  all_goals (first|(exfalso;go_light;omega)|(go_ret;exact ⟨ret_int (by simp[localDay,h]),rfl⟩))
 ·have h':0<=t+o:=by omega
  go_enter Tryz.func238,Tryz.ntmps238
  go_wp2
  all_goals (first|(exfalso;go_light;omega)|(go_ret;exact ⟨ret_int (by rw[localDay,if_neg (by omega)]),rfl⟩))
theorem zcheck_any (w:World)(A:Option Addr)(n c:Nat)(z:Zone)(hx:In w A n c z.shifts)(ho:I64 z.offset)(t:Int):
  Calls Tryz.prog 213 #[.agg #[.string z.name,.int .i64 z.offset,.slice A n c],.int .i64 t] w λe w'=>e=.returned (.int .i64 (dayErr z t))/\Below w.heap.size w w':=by
 go_enter Tryz.func213,Tryz.ntmps213
 go_wp2_with fail
 refine (zone_any _ A n c z (hx.below (by first|exact below_alloc|exact Below.refl _ _)) ho).mono ?_
 rintro e w1 ⟨rfl,hb1⟩
 have hbb:Below w.heap.size w w1:=by first|exact hb1|exact below_trans below_alloc hb1
 clear hb1
 by_cases h0:zoneErr z=0
 ·have HD:Hid (dayErr z t=if t<0\/575999999<t then 1 else 0):=hide (by rw[dayErr,if_neg (by simp[h0])])
  rw[h0]
  clear h0
  go_wp2
  all_goals (go_ret;refine ⟨ret_int ?_,hbb⟩;rw[HD.out];go_light;(try simp only[decide_eq_true_eq,decide_eq_false_iff_not]at*);first|(rw[if_pos (by omega)])|(rw[if_neg (by omega)]))
 ·have HD:Hid (dayErr z t=zoneErr z):=hide (by rw[dayErr,if_pos h0])
  have q:(zoneErr z != 0)=true:=by simpa using h0
  clear h0
  go_wp2
  go_ret
  exact ⟨ret_int HD.out.symm,hbb⟩
theorem shift_off {l:List Shift}{k:Nat}(h:firstShift l k (l.drop k)=0): ∀s∈l.drop k, -840<=s.offset/\s.offset<=840/\1<=s.at_/\s.at_<=575999999:=by
 have key: ∀(r:List Shift) (k:Nat),firstShift l k r=0-> ∀s∈r, -840<=s.offset/\s.offset<=840/\1<=s.at_/\s.at_<=575999999:=by
  intro r
  induction r with
  |nil=>intro k _ s hs;cases hs
  |cons x r ih=>
   intro k h s hs
   rw[firstShift]at h
   split at h
   ·contradiction
   ·rename_i h0
    have h0:shiftErr l k x=0:=by omega
    rcases List.mem_cons.1 hs with rfl|hs
    ·rw[shiftErr]at h0
     split at h0
     ·omega
     ·rename_i hn
      have h3:offOk s.offset=true:=by
       cases hq:offOk s.offset
       ·exact absurd (.inr (.inr hq)) hn
       ·rfl
      simp[offOk]at h3
      have h1:¬s.at_<1:=λq=>hn (.inl q)
      have h2:¬575999999<s.at_:=λq=>hn (.inr (.inl q))
      omega
    ·exact ih (k+1) h s hs
 exact key _ k h
theorem zone_bd {z:Zone}(hz:zoneErr z=0):(-840<=z.offset/\z.offset<=840)/\ ∀s∈z.shifts, -840<=s.offset/\s.offset<=840/\1<=s.at_/\s.at_<=575999999:=by
 rw[zoneErr]at hz
 split at hz
 ·omega
 ·split at hz
  ·omega
  ·rename_i h1 h2
   refine ⟨?_,shift_off (k:=0) hz⟩
   have h3:offOk z.offset=true:=by
    cases hq:offOk z.offset
    ·exact absurd hq h2
    ·rfl
   simpa[offOk] using h3
structure Partn where
 day:Int
 rows:List Ent
instance:Inhabited Partn:=⟨⟨0,[]⟩⟩
instance:Rep Partn where
 size:=2
 rd w S cs x:= ∃A n c,cs=[.int .i64 x.day,.slice A n c]/\Sl w S A n c x.rows/\I64 x.day
 len h:=by obtain ⟨A,n,c,rfl,_⟩:=h;rfl
 keep hs h:=by obtain ⟨A,n,c,rfl,h,hc⟩:=h;exact ⟨A,n,c,rfl,h.keep hs,hc⟩
 mono hs h:=by obtain ⟨A,n,c,rfl,h,hc⟩:=h;exact ⟨A,n,c,rfl,h.mono hs,hc⟩
def dayVal (z:Zone)(v:Val):Int:=
 if v.kind=4 then (if dayErr z v.num=0 then dayAt z v.num else -1) else if v.kind=2/\0<=v.num/\v.num<=400000 then v.num else -1
def dayRow (at_:Int)(z:Zone)(row:List Val):Int:=if at_<0 then -1 else dayVal z (row.getD at_.toNat default)
def ofDay (at_:Int)(z:Zone)(rows:List Ent)(d:Int):List Ent:=rows.filter λx=>dayRow at_ z x.row==d
def Asc (l:List Int):Prop:=l.Pairwise (· < ·)
def leastA (last:Int):List Int->Int->Int
 | [],m=>m
 |x :: l,m=>leastA last l (if last<x/\x<m then x else m)
theorem leastA_spec (last:Int): ∀(l:List Int) (m:Int),leastA last l m<=m/\(leastA last l m=m\/(leastA last l m∈l/\last<leastA last l m))/\ ∀x∈l,last<x->leastA last l m<=x
 | [],m=>⟨Int.le_refl _,.inl rfl,λx hx=>by cases hx⟩
 |y :: l,m=>by
  rw[leastA]
  by_cases h:last<y/\y<m
  ·rw[if_pos h]
   obtain ⟨a,b,c⟩:=leastA_spec last l y
   refine ⟨by omega,?_,λx hx hl=>?_⟩
   ·rcases b with b|b
    ·exact .inr ⟨by rw[b];simp,by omega⟩
    ·exact .inr ⟨List.mem_cons_of_mem _ b.1,b.2⟩
   ·rcases List.mem_cons.1 hx with rfl|hx
    ·exact a
    ·exact c x hx hl
  ·rw[if_neg h]
   obtain ⟨a,b,c⟩:=leastA_spec last l m
   refine ⟨a,?_,λx hx hl=>?_⟩
   ·rcases b with b|b
    ·exact .inl b
    ·exact .inr ⟨List.mem_cons_of_mem _ b.1,b.2⟩
   ·rcases List.mem_cons.1 hx with rfl|hx
    ·omega
    ·exact c x hx hl
def Upto (l ks:List Int)(last:Int):Prop:=Asc ks/\ ∀d,d∈ks↔d∈l/\d<=last
theorem Upto.start {l:List Int}(h: ∀d∈l, -1<=d):Upto l [] (-2):=⟨List.Pairwise.nil,λd=>⟨(λh=>by cases h),(λ⟨h1,h2⟩=>by have:=h d h1;omega)⟩⟩
theorem Upto.done {l ks:List Int}{last:Int}(h:Upto l ks last)(hm: ∀d∈l,d<=400000)(he:leastA last l 400001=400001):Asc ks/\ ∀d,d∈ks↔d∈l:=by
 refine ⟨h.1,λd=>⟨λhd=>((h.2 d).1 hd).1,λhd=>(h.2 d).2 ⟨hd,?_⟩⟩⟩
 have h1:=hm d hd
 by_cases q:d<=last
 ·exact q
 ·have:=(leastA_spec last l 400001).2.2 d hd (by omega)
  omega
theorem Upto.step {l ks:List Int}{last:Int}(h:Upto l ks last)(he:leastA last l 400001≠400001):Upto l (ks++[leastA last l 400001]) (leastA last l 400001)/\last<leastA last l 400001/\leastA last l 400001∈l:=by
 obtain ⟨a,b,c⟩:=leastA_spec last l 400001
 obtain ⟨b1,b2⟩:=b.resolve_left he
 refine ⟨⟨?_,λd=>?_⟩,b2,b1⟩
 ·rw[Asc,List.pairwise_append]
  refine ⟨h.1,List.pairwise_singleton _ _,λx hx y hy=>?_⟩
  simp at hy
  have:=((h.2 x).1 hx).2
  omega
 ·rw[List.mem_append,h.2 d]
  simp only[List.mem_singleton]
  constructor
  ·rintro (⟨h1,h2⟩|rfl)
   ·exact ⟨h1,by omega⟩
   ·exact ⟨b1,Int.le_refl _⟩
  ·rintro ⟨h1,h2⟩
   by_cases q:d<=last
   ·exact .inl ⟨h1,q⟩
   ·have:=c d h1 (by omega)
    exact .inr (by omega)
theorem dayAt_any (w:World)(A:Option Addr)(n c:Nat)(z:Zone)(hx:In w A n c z.shifts)(hz:zoneErr z=0)(t:Int)(ht0:0<=t)(ht1:t<=575999999):
  Calls Tryz.prog 214 #[.agg #[.string z.name,.int .i64 z.offset,.slice A n c],.int .i64 t] w λe w'=>e=.returned (.int .i64 (dayAt z t))/\Below w.heap.size w w':=by
 have HB1:=hide (zone_bd hz).2
 have hoff:=(zone_bd hz).1
 have h63:=hx.le
 obtain ⟨nm,off0,xs⟩:=z
 simp only at hx hoff⊢
 have HD:Hid (dayAt ⟨nm,off0,xs⟩ t=dayFrom t xs 0 off0):=hide rfl
 clear hz
 go_enter Tryz.func214,Tryz.ntmps214
 go_wp2
 obtain ⟨w1,hw1⟩: ∃w1,w1=w.alloc (.cells #[.string nm,.int .i64 off0,.slice A n c] 101):=⟨_,rfl⟩
 have g0:w1.cell? ⟨w.heap.size,0,none⟩=some (.string nm):=by rw[hw1];simp[go_sem]
 have g1:w1.cell? ⟨w.heap.size,1,none⟩=some (.int .i64 off0):=by rw[hw1];simp[go_sem]
 have g2:w1.cell? ⟨w.heap.size,2,none⟩=some (.slice A n c):=by rw[hw1];simp[go_sem]
 have hb1:Below w.heap.size w w1:=by rw[hw1];exact below_alloc
 rw[<-hw1]
 clear hw1
 go_quiet (fail)
 go_wp2
 go_loopw [5,6,14] (λd o i wr=> ∃(k:Nat) (q r:Int),k<=n/\i=.int .i64 k/\d=.int .i64 q/\o=.int .i64 r/\(-840<=r/\r<=840)/\dayFrom t xs 0 off0=dayFrom t (xs.drop k) q r/\Below w.heap.size w wr) (λ_ _ i _=>n-(intOf i).toNat)
 case atStart=>exact ⟨0,0,off0,Nat.zero_le _,rfl,rfl,rfl,hoff,rfl,below_drewN hb1 _⟩
 case round=>
  obtain ⟨k,q,r,hk,rfl,rfl,rfl,⟨hr0,hr1⟩,heq,hb⟩:=hrel
  have HE:=hide heq
  have HB:=hide hb
  clear heq hb
  by_cases hlt:k<n
  ·obtain ⟨b,off,x,rfl,hBk,HX,f0,f1,f2,f3⟩:=(hx.below HB.out).shift hlt
   obtain ⟨x1,x2,x3,x4⟩:=HB1.out x (List.mem_of_mem_drop (i:=k) (by rw[HX.out];simp))
   have k0:(0:Int)<=(k:Int):=by omega
   have k1:(k:Int)<(n:Int):=by omega
   have hw:IntKind.i64.wrap (x.at_-1)=x.at_-1:=IntWalk.i64_in _ (by omega)
   by_cases hs:t<x.at_
   ·have HN:Hid (dayFrom t xs 0 off0=max q (localDay t r)):=hide (by rw[HE.out,HX.out,dayFrom,if_pos hs])
    go_wp2_with (go_at_call 238;refine (local_any _ _ (by omega) (by omega) hr0 hr1 _).mono ?_;rintro e w' ⟨rfl,rfl⟩)
    all_goals
     go_ret
     exact ⟨ret_int (by rw[HD.out,HN.out];first|rfl|omega),below_trans HB.out below_alloc⟩
   ·have HN:Hid (dayFrom t xs 0 off0=dayFrom t (xs.drop (k+1)) (max q (localDay (x.at_-1) r)) x.offset):=hide (by rw[HE.out,HX.out,dayFrom,if_neg hs])
    go_wp2
    go_region_held3 (λV=>V.cell? ⟨wr.heap.size,0,none⟩=some (.int .i64 x.at_)/\V.cell? ⟨wr.heap.size,1,none⟩=some (.int .i64 x.offset)) (first|go_keep|fail) (first|(go_at_call 238;(try rw[hw]);refine (local_any _ _ (by omega) (by omega) hr0 hr1 _).mono ?_;rintro e w' ⟨rfl,rfl⟩))
    go_wp2
    all_goals
     go_roundw
     case rel=>exact ⟨k+1,_,_,by omega,by go_num,rfl,rfl,⟨x1,x2⟩,by first|exact HN.out|(rw[HN.out];congr 1;omega),below_drewN (below_trans HB.out below_alloc) _⟩
     case measure=>simp[intOf];omega
  ·have HN:Hid (dayFrom t xs 0 off0=max q (localDay t r)):=hide (by rw[HE.out,drop_end hx.len (by omega),dayFrom])
   go_wp2_with (go_at_call 238;refine (local_any _ _ (by omega) (by omega) hr0 hr1 _).mono ?_;rintro e w' ⟨rfl,rfl⟩)
   all_goals
    go_ret
    exact ⟨ret_int (by rw[HD.out,HN.out];first|rfl|omega),HB.out⟩
theorem day_any (w:World)(A:Option Addr)(n c:Nat)(z:Zone)(hx:In w A n c z.shifts)(ho:I64 z.offset)(t:Int):
  Calls Tryz.prog 179 #[.agg #[.string z.name,.int .i64 z.offset,.slice A n c],.int .i64 t] w λe w'=>e=.returned (.tuple #[.int .i64 (dayS z t).1,.int .i64 (dayS z t).2])/\Below w.heap.size w w':=by
 go_enter Tryz.func179,Tryz.ntmps179
 go_wp2_with fail
 refine (zcheck_any _ A n c z (hx.below below_alloc) ho t).mono ?_
 rintro e w1 ⟨rfl,hb1⟩
 have hbb:=below_trans below_alloc hb1
 have g0:=bat (b:=w.heap.size) (o:=0) (v:=.string z.name) hb1 (by simp) (by simp[go_sem])
 have g1:=bat (b:=w.heap.size) (o:=1) (v:=.int .i64 z.offset) hb1 (by simp) (by simp[go_sem])
 have g2:=bat (b:=w.heap.size) (o:=2) (v:=.slice A n c) hb1 (by simp) (by simp[go_sem])
 clear hb1
 by_cases h0:dayErr z t=0
 ·have HD:Hid (dayS z t=(dayAt z t,0)):=hide (by rw[dayS,if_neg (by simp[h0])])
  have h1:zoneErr z=0/\0<=t/\t<=575999999:=by
   rw[dayErr]at h0
   split at h0
   ·omega
   ·split at h0
    ·omega
    ·omega
  obtain ⟨h1,h2,h3⟩:=h1
  have H1:=hide h1
  rw[h0]
  clear h0 h1
  go_wp2_with fail
  refine (dayAt_any _ A n c z (hx.below hbb) H1.out t h2 h3).mono ?_
  rintro e w2 ⟨rfl,hb2⟩
  go_wp2
  go_ret2
  exact ⟨by rw[HD.out];rfl,below_trans hbb hb2⟩
 ·have HD:Hid (dayS z t=(0,dayErr z t)):=hide (by rw[dayS,if_pos h0])
  have q:(dayErr z t != 0)=true:=by simpa using h0
  clear h0
  go_wp2
  go_ret2
  exact ⟨by rw[HD.out];rfl,hbb⟩
def addS (xs ys:List Ent):Int×List Ent:=if bagErr xs≠0 then (bagErr xs,[]) else if bagErr ys≠0 then (bagErr ys,[]) else bagS (xs++ys)
def normS (xs:List Ent):Int×List Ent:=if firstErr (λ_ x=>entErr x) 0 xs≠0 then (firstErr (λ_ x=>entErr x) 0 xs,[]) else bagS xs
def restR (at_:Int)(z:Zone)(rows:List Ent)(d:Int):List Ent:=rows.filter λx=>dayRow at_ z x.row != d
def IsChanged (at_:Int)(z:Zone)(old new:List Ent)(ds:List Int):Prop:=
 Asc ds/\ ∀d,d∈ds↔ofDay at_ z old d≠ofDay at_ z new d
theorem bagErr_filter {b:List Ent}(h:bagErr b=0)(p:Ent->Bool):bagErr (b.filter p)=0:=by
 obtain ⟨h1,h2,h3⟩:=bagErr_iff.1 h
 exact bagErr_iff.2 ⟨Nat.le_trans (List.length_filter_le _ _) h1,λx hx=>h2 x (List.mem_filter.1 hx).1,h3.filter p⟩
theorem ents_ok {xs:List Ent}:firstErr (λ_ x=>entErr x) 0 xs=0↔ ∀x∈xs,entErr x=0:=by
 rw[fe_zero]
 constructor
 ·intro h x hx
  obtain ⟨j,hj⟩:=List.mem_iff_getElem?.1 hx
  exact h j x hj
 ·intro h j x hx
  exact h x (List.mem_iff_getElem?.2 ⟨j,hx⟩)
theorem normS_ok {xs:List Ent}(h: ∀x∈xs,entErr x=0):normS xs=bagS xs:=by
 rw[normS,if_neg (by rw[ents_ok.2 h];simp)]
theorem bag_ents {b:List Ent}(h:bagErr b=0): ∀x∈b,entErr x=0:=λx hx=>((bagErr_iff.1 h).2.1 x hx).1
theorem cnt_filter_of {p:Ent->Bool}{l:List Ent}{r:List Val}(h: ∀x∈l,x.row=r->p x=true):cnt (l.filter p) r=cnt l r:=by
 induction l with
 |nil=>rfl
 |cons x l ih=>
  have ih:=ih λy hy=>h y (by simp[hy])
  by_cases q:p x=true
  ·rw[List.filter_cons_of_pos q,cnt,cnt,ih]
  ·rw[List.filter_cons_of_neg q,cnt,ih,if_neg]
   ·omega
   ·intro e;exact q (h x (by simp) (cr_zero.1 e))
theorem cnt_filter_no {p:Ent->Bool}{l:List Ent}{r:List Val}(h: ∀x∈l,x.row=r->p x=false):cnt (l.filter p) r=0:=by
 refine cnt_none λx hx e=>?_
 obtain ⟨h1,h2⟩:=List.mem_filter.1 hx
 rw[h x h1 (cr_zero.1 e)]at h2
 cases h2
theorem cnt_restR {at_:Int}{z:Zone}{l:List Ent}{d:Int}{r:List Val}:cnt (restR at_ z l d) r=if dayRow at_ z r=d then 0 else cnt l r:=by
 split
 ·rename_i h;exact cnt_filter_no λx _ e=>by rw[e,h];simp
 ·rename_i h;exact cnt_filter_of λx _ e=>by rw[e];simpa using h
theorem cnt_ofDay {at_:Int}{z:Zone}{l:List Ent}{d:Int}{r:List Val}:cnt (ofDay at_ z l d) r=if dayRow at_ z r=d then cnt l r else 0:=by
 split
 ·rename_i h;exact cnt_filter_of λx _ e=>by rw[e];simpa using h
 ·rename_i h;exact cnt_filter_no λx _ e=>by rw[e];simpa using h
structure Mixed (at_:Int) (z:Zone) (old new now:List Ent) (done:List Int):Prop where
 bag:bagErr now=0
 cnt: ∀r,cnt now r=if dayRow at_ z r∈done then cnt new r else cnt old r
theorem Mixed.start {at_:Int}{z:Zone}{old new:List Ent}(h:bagErr old=0):Mixed at_ z old new old []:=⟨h,λr=>by simp⟩
theorem bag_noz {b:List Ent}(h:bagErr b=0):NoZ b:=λx hx=>((bagErr_iff.1 h).2.1 x hx).2
theorem bag_asc {b:List Ent}(h:bagErr b=0):AscE b:=(bagErr_iff.1 h).2.2
theorem bag_ext {a b:List Ent}(h:bagErr a=0)(h':bagErr b=0)(hc: ∀r,Proofs.YtggejcekmehocaaGreatDoor.cnt a r=Proofs.YtggejcekmehocaaGreatDoor.cnt b r):a=b:=asc_ext (bag_asc h) (bag_asc h') (bag_noz h) (bag_noz h') hc
theorem mem_cnt {b:List Ent}(h:bagErr b=0){r:List Val}:Proofs.YtggejcekmehocaaGreatDoor.cnt b r≠0↔ ∃x∈b,x.row=r:=by
 constructor
 ·intro q
  by_cases g: ∃x∈b,x.row=r
  ·exact g
  ·exact absurd (cnt_none λx hx e=>g ⟨x,hx,cr_zero.1 e⟩) q
 ·rintro ⟨x,hx,rfl⟩
  rw[(bag_asc h).mem hx]
  exact bag_noz h x hx
theorem ofDay_ext {at_:Int}{z:Zone}{a b:List Ent}(h:bagErr a=0)(h':bagErr b=0){d:Int}(hc: ∀r,dayRow at_ z r=d->Proofs.YtggejcekmehocaaGreatDoor.cnt a r=Proofs.YtggejcekmehocaaGreatDoor.cnt b r):ofDay at_ z a d=ofDay at_ z b d:=
 bag_ext (bagErr_filter h _) (bagErr_filter h' _) λr=>by
  show Proofs.YtggejcekmehocaaGreatDoor.cnt (ofDay at_ z a d) r=Proofs.YtggejcekmehocaaGreatDoor.cnt (ofDay at_ z b d) r
  rw[cnt_ofDay,cnt_ofDay]
  split
  ·rename_i q;exact hc r q
  ·rfl
theorem Mixed.ne {at_:Int}{z:Zone}{old new now:List Ent}{ds done l:List Int}{d:Int}(h:Mixed at_ z old new now done)(ho:bagErr old=0)(hn:bagErr new=0)(hc:IsChanged at_ z old new ds)(e:ds=done++d :: l):now≠new:=by
 rintro rfl
 have h1:=(hc.2 d).1 (by rw[e];simp)
 apply h1
 refine ofDay_ext ho hn λr hr=>?_
 have h2:=h.cnt r
 rw[if_neg]at h2
 ·exact h2.symm
 ·rw[hr]
  intro q
  have:=hc.1
  rw[e]at this
  have:=(List.pairwise_append.1 this).2.2 d q d (by simp)
  omega
theorem Mixed.fin {at_:Int}{z:Zone}{old new now:List Ent}{ds:List Int}(h:Mixed at_ z old new now ds)(ho:bagErr old=0)(hn:bagErr new=0)(hc:IsChanged at_ z old new ds):now=new:=by
 refine bag_ext h.bag hn λr=>?_
 rw[h.cnt]
 split
 ·rfl
 ·rename_i q
  rw[hc.2]at q
  have q:ofDay at_ z old (dayRow at_ z r)=ofDay at_ z new (dayRow at_ z r):=by
   by_cases g:ofDay at_ z old (dayRow at_ z r)=ofDay at_ z new (dayRow at_ z r)
   ·exact g
   ·exact absurd g q
  have:=congrArg (λl=>Proofs.YtggejcekmehocaaGreatDoor.cnt l r) q
  simpa[cnt_ofDay] using this
theorem len_cnt {b:List Ent}(h:AscE b)(hz:NoZ b){l:List Ent}(hl: ∀r,Proofs.YtggejcekmehocaaGreatDoor.cnt b r≠0-> ∃x∈l,x.row=r):b.length<=l.length:=by
 have hnd:(b.map Ent.row).Nodup:=by
  rw[List.nodup_iff_pairwise_ne,List.pairwise_map]
  refine h.imp λ{x y} q e=>?_
  rw[e,cr_zero.2 rfl]at q
  omega
 have hsub: ∀r∈b.map Ent.row,r∈l.map Ent.row:=λr hr=>by
  obtain ⟨x,hx,rfl⟩:=List.mem_map.1 hr
  obtain ⟨y,hy,e⟩:=hl x.row (by rw[h.mem hx];exact hz x hx)
  exact List.mem_map.2 ⟨y,hy,e⟩
 have:=hnd.length_le_of_subset hsub
 simpa using this
theorem Mixed.rows {at_:Int}{z:Zone}{old new now:List Ent}{done:List Int}(h:Mixed at_ z old new now done): ∀x∈now,∃y∈old++new,y.row=x.row:=λx hx=>by
 have h1:=(mem_cnt h.bag (r:=x.row)).2 ⟨x,hx,rfl⟩
 by_cases g: ∃y∈old++new,y.row=x.row
 ·exact g
 ·exfalso
  rw[h.cnt]at h1
  apply h1
  split
  ·exact cnt_none λy hy e=>g ⟨y,by simp[hy],cr_zero.1 e⟩
  ·exact cnt_none λy hy e=>g ⟨y,by simp[hy],cr_zero.1 e⟩
theorem Mixed.len {at_:Int}{z:Zone}{old new now:List Ent}{done:List Int}(h:Mixed at_ z old new now done):now.length<=(old++new).length:=
 len_cnt (bag_asc h.bag) (bag_noz h.bag) λr hr=>by
  obtain ⟨x,hx,rfl⟩:=(mem_cnt h.bag).1 hr
  exact h.rows x hx
theorem Mixed.step {at_:Int}{z:Zone}{old new now:List Ent}{done:List Int}{d:Int}(h:Mixed at_ z old new now done)(ho:bagErr old=0)(hn:bagErr new=0)(hl:(old++new).length<=4096):
  ∃nx,bagS (restR at_ z now d++ofDay at_ z new d)=(0,nx)/\Mixed at_ z old new nx (done++[d]):=by
 have hc: ∀r,Proofs.YtggejcekmehocaaGreatDoor.cnt (restR at_ z now d++ofDay at_ z new d) r=if dayRow at_ z r∈done++[d] then Proofs.YtggejcekmehocaaGreatDoor.cnt new r else Proofs.YtggejcekmehocaaGreatDoor.cnt old r:=λr=>by
  rw[cnt_app,cnt_restR,cnt_ofDay,h.cnt]
  by_cases q:dayRow at_ z r=d
  ·simp[q]
  ·simp[q]
 have hok: ∀x∈restR at_ z now d++ofDay at_ z new d,entErr x=0:=λx hx=>by
  rcases List.mem_append.1 hx with hx|hx
  ·exact bag_ents h.bag x (List.mem_filter.1 hx).1
  ·exact bag_ents hn x (List.mem_filter.1 hx).1
 have herr:resErr 0 (keepF (sortL (restR at_ z now d++ofDay at_ z new d)))=false:=by
  refine (resErr_iff _ 0 (keepF_noz _) (by omega)).2 ⟨λx hx=>?_,?_⟩
  ·have h1:=(keepF_asc (sortL_asc _)).mem hx
   rw[keepF_cnt,sortL_cnt,hc]at h1
   have hx0:=keepF_noz _ x hx
   have: ∀b:List Ent,bagErr b=0->Proofs.YtggejcekmehocaaGreatDoor.cnt b x.row=x.count-> -65536<=x.count/\x.count<=65536:=λb hb e=>by
    obtain ⟨y,hy,e2⟩:=(mem_cnt hb (r:=x.row)).1 (by rw[e];exact hx0)
    have:=(bag_asc hb).mem hy
    rw[e2,e]at this
    have:=ent_cnt (bag_ents hb y hy)
    omega
   split at h1
   ·exact this new hn h1
   ·exact this old ho h1
  ·have:(keepF (sortL (restR at_ z now d++ofDay at_ z new d))).length<=(old++new).length:=
    len_cnt (keepF_asc (sortL_asc _)) (keepF_noz _) λr hr=>by
     rw[keepF_cnt,sortL_cnt,hc]at hr
     by_cases g: ∃y∈old++new,y.row=r
     ·exact g
     ·exfalso;apply hr
      split
      ·exact cnt_none λy hy e=>g ⟨y,by simp[hy],cr_zero.1 e⟩
      ·exact cnt_none λy hy e=>g ⟨y,by simp[hy],cr_zero.1 e⟩
   omega
 rw[resErr_keep]at herr
 have hb:bagS (restR at_ z now d++ofDay at_ z new d)=(0,keepF (sortL (restR at_ z now d++ofDay at_ z new d))):=by rw[bagS,herr];simp
 have h1:=bagS_ok hok
 rw[hb]at h1
 exact ⟨_,hb,h1,λr=>by rw[keepF_cnt,sortL_cnt,hc]⟩
def Has (k:Kd)(v:Val):Prop:=valid v=true/\(v.kind=k.kind\/(v.kind=0/\k.null=true))
def KdOk (k:Kd):Prop:=0<=k.kind/\k.kind<=4/\(k.kind=0->k.null=true)
def Fit2:List Kd->List Val->Prop
 | [],[]=>True
 |k :: ks,v :: vs=>(KdOk k/\Has k v)/\Fit2 ks vs
 | _,_=>False
theorem Fit2.len: ∀{ks:List Kd} {vs:List Val},Fit2 ks vs->ks.length=vs.length
 | [],[],_=>rfl
 | _ :: _,_ :: _,h=>by rw[List.length_cons,List.length_cons,Fit2.len h.2]
 | [],_ :: _,h=>h.elim
 | _ :: _,[],h=>h.elim
theorem Fit2.take: ∀{ks:List Kd} {vs:List Val} (n:Nat),Fit2 ks vs->Fit2 (ks.take n) (vs.take n)
 | [],[],_,_=>by simp[Fit2]
 | _ :: _,_ :: _,0,_=>trivial
 | _ :: _,_ :: _,n+1,h=>⟨h.1,Fit2.take n h.2⟩
 | [],_ :: _,_,h=>h.elim
 | _ :: _,[],_,h=>h.elim
theorem Fit2.drop: ∀{ks:List Kd} {vs:List Val} (n:Nat),Fit2 ks vs->Fit2 (ks.drop n) (vs.drop n)
 | [],[],_,_=>by simp[Fit2]
 | _ :: _,_ :: _,0,h=>h
 | _ :: _,_ :: _,n+1,h=>Fit2.drop n h.2
 | [],_ :: _,_,h=>h.elim
 | _ :: _,[],_,h=>h.elim
theorem Fit2.push {k:Kd}{v:Val}(hk:KdOk k/\Has k v): ∀{ks:List Kd} {vs:List Val},Fit2 ks vs->Fit2 (ks++[k]) (vs++[v])
 | [],[],_=>⟨hk,trivial⟩
 | _ :: _,_ :: _,h=>⟨h.1,Fit2.push hk h.2⟩
 | [],_ :: _,h=>h.elim
 | _ :: _,[],h=>h.elim
theorem Fit2.valid: ∀{ks:List Kd} {vs:List Val},Fit2 ks vs-> ∀v∈vs,valid v=true
 | [],[],_,_,h=>by cases h
 |k :: ks,x :: vs,h,v,hv=>by
  rcases List.mem_cons.1 hv with rfl|hv
  ·exact h.1.2.1
  ·exact Fit2.valid h.2 v hv
 | [],_ :: _,h,_,_=>h.elim
 | _ :: _,[],h,_,_=>h.elim
theorem empty_toList:(⟨#[]⟩:ByteArray).toList=[]:=by rw[ByteArray.toList_eq]
theorem noStr_empty:noStr ⟨#[]⟩=true:=by rw[noStr,empty_toList];rfl
theorem valid_null:valid nullV=true:=by simp[valid,nullV,noStr_empty]
theorem valid_boolV (b:Bool):valid (boolV b)=true:=by cases b <;> simp[valid,boolV,noStr_empty]
theorem valid_numV (n:Int)(ok:Bool)(h:ok=true->smallI n=true):valid (numV n ok)=true:=by
 cases ok
 ·exact valid_null
 ·have:=h rfl
  simp[smallI]at this
  simp[numV,valid,noStr_empty]
  omega
theorem valid_momV (n:Int):valid (momV n)=true:=by
 rw[momV]
 split
 ·exact valid_null
 ·simp[valid,noStr_empty];omega
theorem small_add {a b:Int}:(addX a b).2=true->smallI (addX a b).1=true:=by
 rw[addX];split
 ·rename_i h;intro _;simp[Bool.and_eq_true]at h;exact h.2
 ·intro h;cases h
theorem small_sub {a b:Int}:(subX a b).2=true->smallI (subX a b).1=true:=by
 rw[subX];split
 ·rename_i h;intro _;simp[Bool.and_eq_true]at h;exact h.2
 ·intro h;cases h
theorem small_mul {a b:Int}:(mulX a b).2=true->smallI (mulX a b).1=true:=by
 rw[mulX];split
 ·rename_i h;intro _;simp[Bool.and_eq_true]at h;exact h.2
 ·intro h;cases h
theorem fdiv_bd {a b:Int}(ha: -1073741824<=a/\a<=1073741824)(hb:b≠0): -1073741824<=a.fdiv b/\a.fdiv b<=1073741824:=by
 have key: ∀(a b:Int),0<b-> -1073741824<=a->a<=1073741824-> -1073741824<=a.fdiv b/\a.fdiv b<=1073741824:=by
  intro a b hb h1 h2
  rw[Int.fdiv_eq_ediv_of_nonneg _ (by omega)]
  constructor
  ·rw[Int.le_ediv_iff_mul_le hb]
   have:(-1073741824:Int)*b<= -1073741824*1:=Int.mul_le_mul_of_nonpos_left (by omega) (by omega)
   omega
  ·have:a / b<1073741825:=by
    rw[Int.ediv_lt_iff_lt_mul hb]
    have:(1073741825:Int)*1<=1073741825*b:=Int.mul_le_mul_of_nonneg_left (by omega) (by omega)
    omega
   omega
 rcases Int.lt_or_gt_of_ne hb with h|h
 ·have:=key (-a) (-b) (by omega) (by omega) (by omega)
  rw[Int.neg_fdiv_neg]at this
  exact this
 ·exact key a b (by omega) ha.1 ha.2
theorem fmod_bd {a b:Int}(hb: -1073741824<=b/\b<=1073741824)(h0:b≠0): -1073741824<=a.fmod b/\a.fmod b<=1073741824:=by
 rcases Int.lt_or_gt_of_ne h0 with h|h
 ·have h1:=Int.fmod_nonneg_of_pos (-a) (b:= -b) (by omega)
  have h2:=Int.fmod_lt_of_pos (-a) (b:= -b) (by omega)
  rw[Int.neg_fmod_neg]at h1 h2
  omega
 ·have h1:=Int.fmod_nonneg_of_pos a (b:=b) (by omega)
  have h2:=Int.fmod_lt_of_pos a (b:=b) (by omega)
  omega
theorem small_div {a b:Int}:(divX a b).2=true->smallI (divX a b).1=true:=by
 rw[divX];split
 ·rename_i h;intro _
  simp[smallI]at h
  have:=fdiv_bd (a:=a) (b:=b) (by omega) h.2
  simp[smallI];omega
 ·intro h;cases h
theorem small_mod {a b:Int}:(modX a b).2=true->smallI (modX a b).1=true:=by
 rw[modX];split
 ·rename_i h;intro _
  simp[smallI]at h
  have:=fmod_bd (a:=a) (b:=b) (by omega) h.2
  simp[smallI];omega
 ·intro h;cases h
theorem localDay_bd {t o:Int}(ht:t<=575999999)(ho:o<=840):localDay t o<=400001:=by
 unfold localDay;split <;> omega
theorem dayFrom_bd {t:Int}(ht:t<=575999999): ∀(l:List Shift) (best o:Int),(∀s∈l,s.offset<=840/\s.at_<=575999999)->o<=840->0<=best->best<=400001->0<=dayFrom t l best o/\dayFrom t l best o<=400001
 | [],best,o,_,ho,h0,h1=>by
  have:=localDay_bd ht ho
  rw[dayFrom];omega
 |s :: l,best,o,h,ho,h0,h1=>by
  have hs:=h s (by simp)
  have h2:=localDay_bd ht ho
  have h3:=localDay_bd (t:=s.at_-1) (o:=o) (by omega) ho
  rw[dayFrom]
  split
  ·omega
  ·exact dayFrom_bd ht l _ _ (λq hq=>h q (by simp[hq])) hs.1 (by omega) (by omega)
theorem dayAt_bd {z:Zone}(hz:zoneErr z=0){t:Int}(ht:t<=575999999):0<=dayAt z t/\dayAt z t<=400001:=by
 obtain ⟨h1,h2⟩:=zone_bd hz
 exact dayFrom_bd ht z.shifts 0 z.offset (λs hs=>⟨(h2 s hs).2.1,(h2 s hs).2.2.2⟩) (by omega) (by omega) (by omega)
theorem dayS_small (z:Zone)(t:Int):smallI (dayS z t).1=true:=by
 rw[dayS]
 split
 ·rfl
 ·rename_i h
  have h:dayErr z t=0:=by omega
  rw[dayErr]at h
  split at h
  ·omega
  ·split at h
   ·omega
   ·have:=dayAt_bd (z:=z) (by omega) (t:=t) (by omega)
    simp[smallI];omega
theorem valid_ok {v:Val}(h:valid v=true):v.ok:=by
 obtain ⟨k,n,s⟩:=v
 have e: ∀s:ByteArray,noStr s=true->Str s:=by
  intro s hs
  rw[noStr,List.isEmpty_iff]at hs
  have:s.size=s.toList.length:=by rw[ByteArray.toList_eq];rfl
  unfold Str;rw[this,hs];exact Nat.zero_le _
 rw[valid]at h
 simp only at h
 refine ⟨?_,?_,?_⟩ <;> simp only
 ·unfold I64;(repeat' split at h) <;> first|omega|(subst_vars;omega)|(cases h)
 ·unfold I64;(repeat' split at h) <;> simp at h <;> omega
 ·(repeat' split at h) <;> simp at h <;> first|exact e _ h.2|exact e _ h.1|(unfold Str;omega)
theorem valid_kind {v:Val}(h:valid v=true):0<=v.kind/\v.kind<=4:=by
 rw[valid]at h
 (repeat' split at h) <;> first|omega|(cases h)
theorem valid_null_eq {v:Val}(h:valid v=true)(h0:v.kind=0):v=nullV:=by
 obtain ⟨k,n,s⟩:=v
 simp only at h0
 subst h0
 simp[valid,noStr]at h
 obtain ⟨h1,h2⟩:=h
 subst h1
 have:s=⟨#[]⟩:=by
  rw[ByteArray.toList_eq]at h2
  obtain ⟨⟨l⟩⟩:=s
  simp at h2
  subst h2
  rfl
 subst this
 rfl
theorem has_zero {k:Kd}{v:Val}(hk:KdOk k)(h:Has k v)(h0:v.kind=0):k.null=true:=by
 rcases h.2 with h1|h1
 ·exact hk.2.2 (by omega)
 ·exact h1.2
theorem has_fits {k:Kd}{v:Val}(hk:KdOk k)(h:Has k v){j:Int}(hf:fits k j=true):v.kind=j\/v.kind=0:=by
 simp[fits]at hf
 rcases h.2 with h1|h1
 ·omega
 ·exact .inr h1.1
theorem has_mk {k:Int}{b:Bool}{v:Val}(hv:valid v=true)(h:v.kind=k\/(v.kind=0/\b=true)):Has ⟨k,b⟩ v:=⟨hv,h⟩
theorem has_null {k:Kd}(h:k.null=true):Has k nullV:=⟨valid_null,.inr ⟨rfl,h⟩⟩
theorem numV_kind (n:Int)(ok:Bool):(numV n ok).kind=2\/(numV n ok).kind=0:=by cases ok <;> simp[numV,nullV]
theorem momV_kind (n:Int):(momV n).kind=4\/(momV n).kind=0:=by rw[momV];split <;> simp[nullV]
theorem common_kd {x y:Kd}(h:(common x y).2=true):(x.kind=(common x y).1\/x.kind=0)/\(y.kind=(common x y).1\/y.kind=0):=by
 rw[common]at h⊢
 split
 ·rename_i h0;exact ⟨.inr h0,.inl rfl⟩
 ·rename_i h0
  rw[if_neg h0]at h
  simp[fits]at h
  exact ⟨.inl rfl,h⟩
theorem common_rng {x y:Kd}(hx:KdOk x)(hy:KdOk y):0<=(common x y).1/\(common x y).1<=4:=by
 rw[common];split
 ·exact ⟨hy.1,hy.2.1⟩
 ·exact ⟨hx.1,hx.2.1⟩
theorem common_zero {x y:Kd}(h:(common x y).2=true)(h0:(common x y).1=0):x.kind=0/\y.kind=0:=by
 have:=common_kd h
 omega
theorem un_sound {zs:List Zone}{op:Int}{nm:ByteArray}{x:Kd}{v:Val}(hop:op=2\/op=3\/op=16\/op=19\/op=20)(hx:KdOk x)(hv:Has x v)(h:(unKd op x).2=true):
  KdOk (unKd op x).1/\Has (unKd op x).1 (unV zs op nm v):=by
 by_cases h0:v.kind=0
 ·have hn:=has_zero hx hv h0
  rcases hop with rfl|rfl|rfl|rfl|rfl
  ·simp[unKd,unV,h0,KdOk];exact has_null hn
  ·simp[unKd,unV,h0,KdOk];exact has_null hn
  ·simp[unKd,unV,h0,KdOk];exact has_mk (valid_boolV _) (.inl rfl)
  ·simp[unKd,unV,h0,KdOk];exact has_null hn
  ·simp[unKd,unV,h0,KdOk];exact has_null hn
 ·rcases hop with rfl|rfl|rfl|rfl|rfl
  ·simp[unKd,unV,h0,KdOk];exact has_mk (valid_boolV _) (.inl rfl)
  ·have hk:=(has_fits hx hv (j:=2) (by simpa[unKd] using h)).resolve_right h0
   have hs:(subX 0 v.num).2=true:=by
    have h1:=hv.1
    rw[valid,if_neg h0,if_neg (by omega),if_pos hk]at h1
    simp at h1
    rw[subX,if_pos (by simp[smallI];omega)]
   simp[unKd,unV,h0,KdOk,hs]
   exact has_mk (valid_numV _ _ λ_=>small_sub hs) (.inl rfl)
  ·simp[unKd,unV,h0,KdOk];exact has_mk (valid_boolV _) (.inl rfl)
  ·have hk:=(has_fits hx hv (j:=3) (by simpa[unKd] using h)).resolve_right h0
   have hs:v.str.size<=64:=by
    have h1:=hv.1
    rw[valid,if_neg h0,if_neg (by omega),if_neg (by omega),if_pos hk]at h1
    simp at h1
    exact h1.2
   simp[unKd,unV,h0,KdOk]
   exact has_mk (valid_numV _ _ λ_=>by simp[smallI];omega) (.inl rfl)
  ·simp[unKd,unV,h0,KdOk]
   exact has_mk (valid_numV _ _ λ_=>dayS_small _ _) (.inl rfl)
theorem logic_sound {a b:Val}{s:Int}{x y:Kd}(hx:KdOk x)(ha:Has x a)(hy:KdOk y)(hb:Has y b)(fx:fits x 1=true)(fy:fits y 1=true):Has ⟨1,x.null || y.null⟩ (logicV a b s):=by
 rw[logicV]
 split
 ·exact has_mk (valid_boolV _) (.inl rfl)
 ·split
  ·rename_i h1 h2
   refine has_mk valid_null (.inr ⟨rfl,?_⟩)
   have key: ∀{k:Kd} {v:Val},KdOk k->Has k v->fits k 1=true->truth v<0->k.null=true:=by
    intro k v hk hv hf ht
    rcases has_fits hk hv hf with h3|h3
    ·exfalso
     rw[truth,if_pos ⟨h3,hv.1⟩]at ht
     have h4:=hv.1
     rw[valid,if_neg (by omega),if_pos h3]at h4
     simp at h4
     omega
    ·exact has_zero hk hv h3
   rcases h2 with h2|h2
   ·rw[key hx ha fx h2];rfl
   ·rw[key hy hb fy h2];simp
  ·exact has_mk (valid_boolV _) (.inl rfl)
theorem bin_sound {zs:List Zone}{n:Node}{x y:Kd}{a b:Val}(hop:(4<=n.op/\n.op<=15)\/n.op=18)(hx:KdOk x)(ha:Has x a)(hy:KdOk y)(hb:Has y b)(h:(binKd n.op x y).2=true):
  KdOk (binKd n.op x y).1/\Has (binKd n.op x y).1 (opV zs n [a,b]):=by
 obtain ⟨op,v,nm,ar⟩:=n
 simp only at hop h⊢
 by_cases h14:op=14
 ·subst h14
  simp[binKd]at h
  simp[binKd,opV,KdOk]
  exact logic_sound hx ha hy hb h.1 h.2
 by_cases h15:op=15
 ·subst h15
  simp[binKd]at h
  simp[binKd,opV,KdOk]
  exact logic_sound hx ha hy hb h.1 h.2
 by_cases h18:op=18
 ·subst h18
  simp[binKd]at h
  have hc:=common_kd h
  have hr:=common_rng hx hy
  have hz:=common_zero h
  simp only[binKd,opV]
  refine ⟨⟨hr.1,hr.2,λh0=>?_⟩,?_⟩
  ·simp only[Int.reduceEq,or_self,if_false,if_true]at h0⊢
   have:=hz h0
   simp[hx.2.2 this.1,hy.2.2 this.2]
  ·simp only[Int.reduceEq,or_self,if_false,if_true]
   by_cases ha0:a.kind=0
   ·rw[if_pos ha0]
    have hxn:=has_zero hx ha ha0
    refine has_mk hb.1 ?_
    rcases hb.2 with h1|h1
    ·rcases hc.2 with h2|h2
     ·exact .inl (by omega)
     ·exact .inr ⟨by omega,by simp[hxn,hy.2.2 h2]⟩
    ·exact .inr ⟨h1.1,by simp[hxn,h1.2]⟩
   ·rw[if_neg ha0]
    refine has_mk ha.1 ?_
    rcases ha.2 with h1|h1
    ·rcases hc.1 with h2|h2
     ·exact .inl (by omega)
     ·omega
    ·omega
 have hop':4<=op/\op<=13:=by omega
 have hko:KdOk (binKd op x y).1:=by
  have h4:op=4\/op=5\/op=6\/op=7\/op=8\/op=9\/op=10\/op=11\/op=12\/op=13:=by omega
  rcases h4 with rfl|rfl|rfl|rfl|rfl|rfl|rfl|rfl|rfl|rfl <;> simp[binKd] <;> (repeat' split) <;> simp[KdOk]
 refine ⟨hko,?_⟩
 simp only[opV]
 rw[if_neg h14,if_neg h15,if_neg h18]
 by_cases h0:a.kind=0\/b.kind=0
 ·rw[if_pos h0]
  refine has_null ?_
  have hn:x.null=true\/y.null=true:=by
   rcases h0 with h0|h0
   ·exact .inl (has_zero hx ha h0)
   ·exact .inr (has_zero hy hb h0)
  have hn':(x.null || y.null)=true:=by simpa using hn
  have h4:op=4\/op=5\/op=6\/op=7\/op=8\/op=9\/op=10\/op=11\/op=12\/op=13:=by omega
  rcases h4 with rfl|rfl|rfl|rfl|rfl|rfl|rfl|rfl|rfl|rfl <;> simp[binKd] <;> (repeat' split) <;> first|exact hn'|rfl|(simp;done)|simpa using hn
 ·rw[if_neg h0]
  have ha0:a.kind≠0:=λq=>h0 (.inl q)
  have hb0:b.kind≠0:=λq=>h0 (.inr q)
  have hax:a.kind=x.kind:=ha.2.resolve_right λq=>ha0 q.1
  have hby:b.kind=y.kind:=hb.2.resolve_right λq=>hb0 q.1
  have num: ∀n ok,(ok=true->smallI n=true)->Has ⟨2,true⟩ (numV n ok):=λn ok hh=>has_mk (valid_numV n ok hh) ((numV_kind n ok).elim .inl λq=>.inr ⟨q,rfl⟩)
  have h4:op=4\/op=5\/op=6\/op=7\/op=8\/op=9\/op=10\/op=11\/op=12\/op=13:=by omega
  rcases h4 with rfl|rfl|rfl|rfl|rfl|rfl|rfl|rfl|rfl|rfl
  ·simp only[binKd,binV,arithV,Int.reduceEq,or_self,if_false,if_true]
   by_cases hx4:x.kind=4
   ·rw[if_pos hx4,if_pos (by omega)]
    exact has_mk (valid_momV _) ((momV_kind _).elim .inl λq=>.inr ⟨q,rfl⟩)
   ·rw[if_neg hx4,if_neg (by omega)]
    exact num _ _ small_add
  ·simp only[binKd,binV,arithV,Int.reduceEq,or_self,if_false,if_true]at h⊢
   by_cases hy4:y.kind=4
   ·rw[if_pos hy4]at h⊢
    have hx4:a.kind=4:=(has_fits hx ha h).resolve_right ha0
    rw[if_neg (by omega)]
    have va:=ha.1
    have vb:=hb.1
    rw[valid,if_neg ha0,if_neg (by omega),if_neg (by omega),if_neg (by omega),if_pos hx4]at va
    rw[valid,if_neg hb0,if_neg (by omega),if_neg (by omega),if_neg (by omega),if_pos (by omega)]at vb
    simp at va vb
    have hs:(subX a.num b.num).2=true:=by rw[subX,if_pos (by simp[smallI];omega)]
    rw[hs]
    exact has_mk (valid_numV _ _ λ_=>small_sub hs) (.inl rfl)
   ·rw[if_neg hy4]at h⊢
    by_cases hx4:x.kind=4
    ·rw[if_pos hx4]at h⊢
     have hb2:b.kind=2:=(has_fits hy hb h).resolve_right hb0
     rw[if_pos ⟨by omega,hb2⟩]
     exact has_mk (valid_momV _) ((momV_kind _).elim .inl λq=>.inr ⟨q,rfl⟩)
    ·rw[if_neg hx4]at h⊢
     rw[if_neg (by omega)]
     exact num _ _ small_sub
  ·simp only[binKd,binV,arithV,Int.reduceEq,or_self,or_false,false_or,or_true,true_or,if_false,if_true]
   exact num _ _ small_mul
  ·simp only[binKd,binV,arithV,Int.reduceEq,or_self,or_false,false_or,or_true,true_or,if_false,if_true]
   exact num _ _ small_div
  ·simp only[binKd,binV,arithV,Int.reduceEq,or_self,or_false,false_or,or_true,true_or,if_false,if_true]
   exact num _ _ small_mod
  ·simp only[binKd,binV,Int.reduceEq,or_self,if_false,if_true]
   split
   ·exact has_null rfl
   ·rename_i hs
    exact has_mk (by simp[valid];simpa using hs) (.inl rfl)
  ·simp only[binKd,binV,Int.reduceEq,or_self,if_false,if_true]
   exact has_mk (valid_boolV _) (.inl rfl)
  ·simp only[binKd,binV,Int.reduceEq,or_self,if_false,if_true]
   exact has_mk (valid_boolV _) (.inl rfl)
  ·simp only[binKd,binV,Int.reduceEq,or_self,if_false,if_true]
   exact has_mk (valid_boolV _) (.inl rfl)
  ·simp only[binKd,binV,Int.reduceEq,or_self,if_false,if_true]
   exact has_mk (valid_boolV _) (.inl rfl)
theorem if_sound {zs:List Zone}{n:Node}{y z:Kd}{a b c:Val}{m:List Val}(hy:KdOk y)(hb:Has y b)(hz:KdOk z)(hc:Has z c)(h:(common y z).2=true):
  KdOk ⟨(common y z).1,y.null || z.null⟩/\Has ⟨(common y z).1,y.null || z.null⟩ (opV zs n (a :: b :: c :: m)):=by
 have hcm:=common_kd h
 have hr:=common_rng hy hz
 have h0:=common_zero h
 refine ⟨⟨hr.1,hr.2,λq=>?_⟩,?_⟩
 ·have:=h0 q
  simp[hy.2.2 this.1]
 ·have one: ∀{k:Kd} {v:Val},KdOk k->Has k v->(k.kind=(common y z).1\/k.kind=0)->(k.null=true->(y.null || z.null)=true)->Has ⟨(common y z).1,y.null || z.null⟩ v:=by
   intro k v hk hv hcm hn
   refine has_mk hv.1 ?_
   rcases hv.2 with h1|h1
   ·rcases hcm with h2|h2
    ·exact .inl (by omega)
    ·exact .inr ⟨by omega,hn (hk.2.2 h2)⟩
   ·exact .inr ⟨h1.1,hn h1.2⟩
  simp only[opV]
  split
  ·exact one hy hb hcm.1 (λq=>by simp[q])
  ·exact one hz hc hcm.2 (λq=>by simp[q])
theorem In.part {w:World}{A:Option Addr}{n c k:Nat}{xs:List Partn}(h:In w A n c xs)(hk:k<n): ∃b off x,A=some ⟨b,off,none⟩/\b<w.heap.size/\Hid (xs.drop k=x :: xs.drop (k+1))/\
  ∃A' n' c',w.cell? ⟨b,off+k*2,none⟩=some (.int .i64 x.day)/\w.cell? ⟨b,off+k*2+1,none⟩=some (.slice A' n' c')/\In w A' n' c' x.rows/\I64 x.day:=by
 obtain ⟨b,off,x,e,hb,hx,cs,⟨A',n',c',rfl,hs,hv⟩,hc⟩:=h.get hk
 exact ⟨b,off,x,e,hb,hx,A',n',c',hc 0 (by simp),hc 1 (by simp),hs,hv⟩
end Go.Proofs.YtggejcekmehocaaGreatDoor
