/-
  Days of zones: Floor, local days, the checks. warehouseref4.offset and local. Plain functions of chapter 22: schemes, days of rows, partitions, as both texts compute them. No program is in sight. warehouseref4.day. zone.dayAt, zone.Day, warehouseref4.Day: both days are dayS. Plain law of chapter 22: Pick, Replace, Changed and the sums of bags. No program is in sight. Plain law: the value of a well-typed expression fits its type; what each operator's operands then are. No program is in sight. Cells of partitions in a slice. No program is in sight.
-/
import Derived.Test.YthnelebakkggjaaGreatDoorGag
namespace Go.Proofs.YthnelebakkggjaaGreatDoor
set_option maxHeartbeats 1000000
set_option maxRecDepth 100000
open Go.RowKit
set_option linter.unusedSimpArgs false
set_option linter.unusedVariables false
theorem Gz (a:Int)(i: -4611686018427387904<=a)(j:a<=4611686018427387904)(w:World):Calls Tryz.prog 211 #[.int .i64 a,.int .i64 1440] w λe w'=>e=.returned (.int .i64 (a / 1440))/\w=w':=by
 by_cases h:0<=a
 ·go_enter Tryz.func211,Tryz.ntmps211;go_wp2;all_goals(first|(exfalso;go_light;omega)|(go_ret;exact⟨eQ (by go_light;omega),rfl⟩))
 ·have b:a.tdiv 1440= -((-a) / 1440):=by
   have d:a.tdiv 1440= -((-a).tdiv 1440):=by rw[Int.neg_tdiv,Int.neg_neg]
   rw[d,Int.tdiv_eq_ediv_of_nonneg (a:= -a) Ho]
  have c:a.tmod 1440= -((-a) % 1440):=by
   have d:a.tmod 1440= -((-a).tmod 1440):=by rw[Int.neg_tmod,Int.neg_neg]
   rw[d,Int.tmod_eq_emod_of_nonneg (a:= -a) Ho]
  have f:=Hm b;have g:=Hm c;have hw:=Hm (IntWalk.wrap64_in (a.tdiv 1440-1) (by rw[b];omega));clear b c;go_enter Tryz.func211,Tryz.ntmps211;go_wp2;all_goals
   go_ret;refine⟨eQ ?_,rfl⟩;have b:=f.o;have c:=g.o;go_light
   first|(rw[hw.o];omega)|omega
theorem wU (t o:Int)(b: -4611686018427387904<=t)(c:t<=4611686018427387904)(d: -840<=o)(f:o<=840)(w:World):Calls Tryz.prog 194 #[.int .i64 t,.int .i64 o] w λe w'=>e=.returned (.int .i64 (kv t o))/\w=w':=by
 by_cases h:t+o<0
 ·go_enter Tryz.func194,Tryz.ntmps194;go_wp2;all_goals(first|(exfalso;go_light;omega)|(go_ret;exact⟨eQ (by simp[kv,h]),rfl⟩))
 ·have a:0<=t+o:=by omega
  go_enter Tryz.func194,Tryz.ntmps194;go_wp2;all_goals(first|(exfalso;go_light;omega)|(go_ret;exact⟨eQ (by rw[kv,if_neg Ho]),rfl⟩))
theorem FK (w:World)(A:Option Addr)(n c:Nat)(z:Zone)(j:In w A n c z.shifts)(i:jP z.offset)(t:Int):
  Calls Tryz.prog 174 #[.agg #[.string z.name,.int .i64 z.offset,.slice A n c],.int .i64 t] w λe w'=>e=.returned (.int .i64 (jT z t))/\Below w.heap.size w w':=by
 go_enter Tryz.func174,Tryz.ntmps174;go_wp2_with fail;refine(Ei _ A n c z (j.b (by first|exact eB|exact IJ)) i).mono ?_;rintro e k ⟨rfl,f⟩;have g:Below w.heap.size w k:=by first|exact f|exact eu eB f
 clear f;by_cases a:fD z=0
 ·have d:Hl (jT z t=if t<0\/575999999<t then 1 else 0):=Hm (by rw[jT,if_neg (by simp[a])]);rw[a];clear a;go_wp2;all_goals(go_ret;refine⟨eQ ?_,g⟩;rw[d.o];go_light;(try simp only[decide_eq_true_eq,decide_eq_false_iff_not]at*);first|(rw[if_pos Ho])|(rw[if_neg Ho]))
 ·have d:Hl (jT z t=fD z):=Hm (by rw[jT,if_pos a]);have q:(fD z != 0)=true:=by simpa using a
  clear a;go_wp2;go_ret;exact⟨eQ d.o.symm,g⟩
theorem FL (w:World)(A:Option Addr)(n c:Nat)(z:Zone)(j:In w A n c z.shifts)(i:jP z.offset)(t:Int):
  Calls Tryz.prog 199 #[.agg #[.string z.name,.int .i64 z.offset,.slice A n c],.int .i64 t] w λe w'=>e=.returned (.int .i64 (jT z t))/\Below w.heap.size w w':=by
 go_enter Tryz.func199,Tryz.ntmps199;go_wp2_with fail;refine(Ej _ A n c z (j.b (by first|exact eB|exact IJ)) i).mono ?_;rintro e k ⟨rfl,f⟩;have g:Below w.heap.size w k:=by first|exact f|exact eu eB f
 clear f;by_cases a:fD z=0
 ·have d:Hl (jT z t=if t<0\/575999999<t then 1 else 0):=Hm (by rw[jT,if_neg (by simp[a])]);rw[a];clear a;go_wp2;all_goals(go_ret;refine⟨eQ ?_,g⟩;rw[d.o];go_light;(try simp only[decide_eq_true_eq,decide_eq_false_iff_not]at*);first|(rw[if_pos Ho])|(rw[if_neg Ho]))
 ·have d:Hl (jT z t=fD z):=Hm (by rw[jT,if_pos a]);have q:(fD z != 0)=true:=by simpa using a
  clear a;go_wp2;go_ret;exact⟨eQ d.o.symm,g⟩
theorem Ib {l:List Shift}{k:Nat}(h:gp l k (l.drop k)=0): ∀s∈l.drop k, -840<=s.offset/\s.offset<=840/\1<=s.at_/\s.at_<=575999999:=by
 have key: ∀(r:List Shift) (k:Nat),gp l k r=0-> ∀s∈r, -840<=s.offset/\s.offset<=840/\1<=s.at_/\s.at_<=575999999:=by
  intro r
  induction r with
  |nil=>intro k _ s hs;cases hs
  |cons x r e=>
   intro k h s hs;rw[gp]at h
   split at h
   ·contradiction
   ·rename_i a;have a:iZ l k x=0:=by omega
    rcases List.mem_cons.1 hs with rfl|hs
    ·rw[iZ]at a
     split at a
     ·omega
     ·rename_i b;have c:pq s.offset=true:=by
       cases d:pq s.offset
       ·exact absurd (.inr (.inr d)) b
       ·rfl
      simp[pq]at c;have f:¬s.at_<1:=λq=>b (.inl q);have g:¬575999999<s.at_:=λq=>b (.inr (.inl q));omega
    ·exact e (k+1) h s hs
 exact key _ k h
theorem Dz (w:World)(A:Option Addr)(n c:Nat)(z:Zone)(f:In w A n c z.shifts)(v:jP z.offset)(t:Int):
  Calls Tryz.prog 213 #[.agg #[.string z.name,.int .i64 z.offset,.slice A n c],.int .i64 t] w λe w'=>e=.returned (.int .i64 (mK t z.shifts z.offset))/\Below w.heap.size w w':=by
 obtain⟨nm,a,xs⟩:=z;simp only at f v⊢;have D:=f.le;go_enter Tryz.func213,Tryz.ntmps213;go_wp2;obtain⟨g,d⟩: ∃g,g=w.alloc (.cells #[.string nm,.int .i64 a,.slice A n c] 155):=⟨_,rfl⟩;have g2:g.cell? ⟨w.heap.size,2,none⟩=some (.slice A n c):=by rw[d];simp[go_sem]
 have p:Below w.heap.size w g:=by rw[d];exact eB
 rw[<-d];clear d;have s:=f.b p
 go_loop [5,6] (λo i=> ∃(k:Nat) (q:Int),k<=n/\i=.int .i64 k/\o=.int .i64 q/\mK t xs a=mK t (xs.drop k) q) (λ_ i=>n-(intOf i).toNat)
 case atStart=>exact⟨0,a,Nat.zero_le _,rfl,rfl,rfl⟩
 case round=>
  obtain⟨k,q,F,rfl,rfl,r⟩:=hrel;have j:=Hm r;clear r;by_cases u:k<n
  ·obtain⟨b,off,x,rfl,E,m,y,f1,B,C⟩:=s.shift u;by_cases hs:x.at_<=t
   ·have l:Hl (mK t xs a=mK t (xs.drop (k+1)) x.offset):=Hm (by rw[j.o,m.o,mK,if_pos hs]);go_wp2
    go_round
    case rel=>exact⟨k+1,x.offset,Ho,by go_num,rfl,l.o⟩
    case measure=>simp[intOf];omega
   ·have l:Hl (mK t xs a=mK t (xs.drop (k+1)) q):=Hm (by rw[j.o,m.o,mK,if_neg hs]);go_wp2
    go_round
    case rel=>exact⟨k+1,q,Ho,by go_num,rfl,l.o⟩
    case measure=>simp[intOf];omega
  ·go_wp2;go_ret;exact⟨eQ (by rw[j.o,fG f.len Ho,mK]),p⟩
theorem F9 (t:Int): ∀(l:List Shift) (o:Int),(∀s∈l, -840<=s.offset/\s.offset<=840)-> -840<=o/\o<=840-> -840<=mK t l o/\mK t l o<=840
 | [],o,_,h=>h
 |s::l,o,h,ho=>by
  rw[mK];refine F9 t l _ (λq a=>h q (by simp[a])) ?_
  split
  ·exact h s II
  ·exact ho
theorem wC {z:Zone}(a:fD z=0):(-840<=z.offset/\z.offset<=840)/\ ∀s∈z.shifts, -840<=s.offset/\s.offset<=840/\1<=s.at_/\s.at_<=575999999:=by
 rw[fD]at a
 split at a
 ·omega
 ·split at a
  ·omega
  ·rename_i e b;refine⟨?_,Ib (k:=0) a⟩;have c:pq z.offset=true:=by
    cases d:pq z.offset
    ·exact absurd d b
    ·rfl
   simpa[pq] using c
theorem yY (w:World)(A:Option Addr)(n c:Nat)(z:Zone)(p:In w A n c z.shifts)(i:fD z=0)(t:Int)(r: -1<=t)(u:t<=576000000):
  Calls Tryz.prog 210 #[.agg #[.string z.name,.int .i64 z.offset,.slice A n c],.int .i64 t] w λe w'=>e=.returned (.int .i64 (tZ z t))/\Below w.heap.size w w':=by
 obtain⟨f,a⟩:=wC i;have g:=F9 t z.shifts z.offset (λs hs=>⟨(a s hs).1,(a s hs).2.1⟩) f;have m:jP z.offset:=by unfold jP;omega
 obtain⟨q,d⟩: ∃q,mK t z.shifts z.offset=q:=⟨_,rfl⟩;rw[d]at g;have j:=Hm d;have k:Hl (tZ z t=(t+q) / 1440):=Hm (by rw[tZ,d]);obtain⟨v,x⟩:=g;clear d f a i;go_enter Tryz.func210,Tryz.ntmps210;go_wp2_with fail;refine(Dz _ A n c z (p.b eB) m t).mono ?_;rintro e y ⟨rfl,a⟩;have l:=eu eB a;clear a;rw[j.o];go_wp2_with fail;refine(Gz (t+q) Ho Ho _).mono ?_;rintro e w' ⟨rfl,rfl⟩;go_wp2;go_ret;exact⟨eQ k.o.symm,l⟩
structure Partn where
 day:Int
 rows:List Ent
instance:Inhabited Partn:=⟨⟨0,[]⟩⟩
instance:Rep Partn where
 size:=2
 rd w S cs x:= ∃A n c,cs=[.int .i64 x.day,.slice A n c]/\Sl w S A n c x.rows/\jP x.day
 len h:=by obtain⟨A,n,c,rfl,_⟩:=h;rfl
 keep hs h:=by obtain⟨A,n,c,rfl,h,hc⟩:=h;exact⟨A,n,c,rfl,h.keep hs,hc⟩
 mono hs h:=by obtain⟨A,n,c,rfl,h,hc⟩:=h;exact⟨A,n,c,rfl,h.mono hs,hc⟩
def Mk (z:Zone)(v:Val):Int:=
 if v.kind=4 then(if jT z v.num=0 then vG z v.num else -1) else if v.kind=2/\0<=v.num/\v.num<=400000 then v.num else -1
def oV (at_:Int)(z:Zone)(row:List Val):Int:=if at_<0 then -1 else Mk z (row.getD at_.toNat default)
def nL (at_:Int)(z:Zone)(rows:List Ent)(d:Int):List Ent:=rows.filter λx=>oV at_ z x.row==d
def Asc (l:List Int):Prop:=l.Pairwise (· < ·)
def nR (last:Int):List Int->Int->Int
 | [],m=>m
 |x::l,m=>nR last l (if last<x/\x<m then x else m)
theorem qB (last:Int): ∀(l:List Int) (m:Int),nR last l m<=m/\(nR last l m=m\/(nR last l m∈l/\last<nR last l m))/\ ∀x∈l,last<x->nR last l m<=x
 | [],m=>⟨Int.le_refl _,.inl rfl,λx d=>by cases d⟩
 |y::l,m=>by
  rw[nR];by_cases h:last<y/\y<m
  ·rw[if_pos h];obtain⟨a,b,c⟩:=qB last l y;refine⟨Ho,?_,λx d e=>?_⟩
   ·rcases b with b|b
    ·exact .inr ⟨by rw[b];simp,Ho⟩
    ·exact .inr ⟨List.mem_cons_of_mem _ b.1,b.2⟩
   ·rcases List.mem_cons.1 d with rfl|d
    ·exact a
    ·exact c x d e
  ·rw[if_neg h];obtain⟨a,b,c⟩:=qB last l m;refine⟨a,?_,λx d e=>?_⟩
   ·rcases b with b|b
    ·exact .inl b
    ·exact .inr ⟨List.mem_cons_of_mem _ b.1,b.2⟩
   ·rcases List.mem_cons.1 d with rfl|d
    ·omega
    ·exact c x d e
def Eo (l ks:List Int)(last:Int):Prop:=Asc ks/\ ∀d,d∈ks↔d∈l/\d<=last
theorem Eo.start {l:List Int}(h: ∀d∈l, -1<=d):Eo l [] (-2):=⟨List.Pairwise.nil,λd=>⟨(λh=>by cases h),(λ⟨a,b⟩=>by have:=h d a;omega)⟩⟩
theorem Eo.done {l ks:List Int}{last:Int}(h:Eo l ks last)(a: ∀d∈l,d<=400000)(c:nR last l 400001=400001):Asc ks/\ ∀d,d∈ks↔d∈l:=by
 refine⟨h.1,λd=>⟨λhd=>((h.2 d).1 hd).1,λhd=>(h.2 d).2 ⟨hd,?_⟩⟩⟩;have b:=a d hd;by_cases q:d<=last
 ·exact q
 ·have:=(qB last l 400001).2.2 d hd Ho;omega
theorem Eo.step {l ks:List Int}{last:Int}(h:Eo l ks last)(g:nR last l 400001≠400001):Eo l (ks++[nR last l 400001]) (nR last l 400001)/\last<nR last l 400001/\nR last l 400001∈l:=by
 obtain⟨a,b,c⟩:=qB last l 400001;obtain⟨b1,b2⟩:=b.resolve_left g;refine⟨⟨?_,λd=>?_⟩,b2,b1⟩
 ·rw[Asc,List.pairwise_append];refine⟨h.1,List.pairwise_singleton _ _,λx i y j=>?_⟩;simp at j;have:=((h.2 x).1 i).2;omega
 ·rw[List.mem_append,h.2 d];simp only[List.mem_singleton];constructor
  ·rintro(⟨e,f⟩|rfl)
   ·exact⟨e,Ho⟩
   ·exact⟨b1,Int.le_refl _⟩
  ·rintro⟨e,f⟩;by_cases q:d<=last
   ·exact .inl ⟨e,q⟩
   ·have:=c d e Ho;exact .inr Ho
theorem IP (w:World)(A:Option Addr)(n c:Nat)(z:Zone)(j:In w A n c z.shifts)(y:fD z=0)(t:Int)(T:0<=t)(U:t<=575999999):
  Calls Tryz.prog 200 #[.agg #[.string z.name,.int .i64 z.offset,.slice A n c],.int .i64 t] w λe w'=>e=.returned (.int .i64 (JA z t))/\Below w.heap.size w w':=by
 have J:=Hm (wC y).2;have D:=Hm y;have R:=j.le;have L:Hl (JA z t=iR z t z.shifts (max 0 (tZ z t))):=Hm rfl;clear y;go_enter Tryz.func200,Tryz.ntmps200;go_wp2_with fail;refine(yY _ A n c z (j.b eB) D.o t Ho Ho).mono ?_;rintro e C ⟨rfl,f⟩;have r:=eu eB f;have F:=eG (b:=w.heap.size) (o:=0) (v:=.string z.name) f II (by simp[go_sem]);have g1:=eG (b:=w.heap.size) (o:=1) (v:=.int .i64 z.offset) f II (by simp[go_sem]);have g2:=eG (b:=w.heap.size) (o:=2) (v:=.slice A n c) f II (by simp[go_sem]);have s:w.heap.size<C.heap.size:=lt_of_cell F;clear f;go_wp2;all_goals
  go_loopw [5,6] (λd i wr=> ∃(k:Nat) (q:Int),k<=n/\i=.int .i64 k/\d=.int .i64 q/\iR z t z.shifts (max 0 (tZ z t))=iR z t (z.shifts.drop k) q/\Below C.heap.size C wr) (λ_ i _=>n-(intOf i).toNat)
  case atStart=>exact⟨0,_,Nat.zero_le _,rfl,rfl,by first|rfl|(rw[List.drop_zero];congr 1;omega),IJ⟩
  case round=>
   obtain⟨k,q,S,rfl,rfl,H,hb⟩:=hrel;have m:=Hm H;have a:=Hm hb;have B:=eG hb s F;have I:=eG hb s g1;have p2:=eG hb s g2;have u:w.heap.size<wr.heap.size:=lt_of_cell B;clear H hb;by_cases N:k<n
   ·obtain⟨b,off,x,rfl,M,p,E,f1,P,Q⟩:=(j.b (eu r a.o)).shift N;have O:=J.o x (List.mem_of_mem_drop (i:=k) (by rw[p.o];simp));obtain⟨_,_,Z,x2⟩:=O;have W:(0:Int)<=(k:Int):=by omega
    have X:(k:Int)<(n:Int):=by omega
    have hw:IntKind.i64.wrap (x.at_-1)=x.at_-1:=IntWalk.i64_in _ Ho;by_cases hs:x.at_<=t
    ·have l:Hl (iR z t z.shifts (max 0 (tZ z t))=iR z t (z.shifts.drop (k+1)) (max q (tZ z (x.at_-1)))):=Hm (by rw[m.o,p.o,iR,if_pos hs]);go_wp2;go_region_held3 (λV=>V.cell? ⟨w.heap.size,0,none⟩=some (.string z.name)/\V.cell? ⟨w.heap.size,1,none⟩=some (.int .i64 z.offset)/\V.cell? ⟨w.heap.size,2,none⟩=some (.slice (some ⟨b,off,none⟩) n c)/\V.cell? ⟨b,off+k*2,none⟩=some (.int .i64 x.at_)) (first|exact⟨B,I,p2,E⟩|exact⟨eG g u B,eG g u I,eG g u p2,eG g M E⟩) (first|(go_at_call 210;(try rw[hw]);refine(yY _ _ n c z (j.b ((eu r a.o).drew)) D.o (x.at_-1) Ho Ho).mono ?_;rintro e Y ⟨rfl,G⟩;have g:=eF G;clear G));have K:=Hm (eu a.o g);go_wp2;all_goals
      go_roundw
      case rel=>exact⟨k+1,_,Ho,by go_num,rfl,by first|exact l.o|(rw[l.o];congr 1;omega),K.o⟩
      case measure=>simp[intOf];omega
    ·have l:Hl (iR z t z.shifts (max 0 (tZ z t))=iR z t (z.shifts.drop (k+1)) q):=Hm (by rw[m.o,p.o,iR,if_neg hs]);go_wp2;go_roundw
     case rel=>exact⟨k+1,q,Ho,by go_num,rfl,l.o,a.o⟩
     case measure=>simp[intOf];omega
   ·go_wp2;go_ret;exact⟨eQ (by rw[L.o,m.o,fG j.len Ho,iR]),eu r a.o⟩
theorem Gs (w:World)(A:Option Addr)(n c:Nat)(z:Zone)(m:In w A n c z.shifts)(y:fD z=0)(t:Int)(Q:0<=t)(R:t<=575999999):
  Calls Tryz.prog 175 #[.agg #[.string z.name,.int .i64 z.offset,.slice A n c],.int .i64 t] w λe w'=>e=.returned (.int .i64 (vG z t))/\Below w.heap.size w w':=by
 have E:=Hm (wC y).2;have D:=(wC y).1;have N:=m.le;obtain⟨nm,a,xs⟩:=z;simp only at m D⊢;have B:Hl (vG ⟨nm,a,xs⟩ t=jI t xs 0 a):=Hm rfl;clear y;go_enter Tryz.func175,Tryz.ntmps175;go_wp2;obtain⟨j,g⟩: ∃j,j=w.alloc (.cells #[.string nm,.int .i64 a,.slice A n c] 155):=⟨_,rfl⟩;have M:j.cell? ⟨w.heap.size,0,none⟩=some (.string nm):=by rw[g];simp[go_sem]
 have g1:j.cell? ⟨w.heap.size,1,none⟩=some (.int .i64 a):=by rw[g];simp[go_sem]
 have g2:j.cell? ⟨w.heap.size,2,none⟩=some (.slice A n c):=by rw[g];simp[go_sem]
 have F:Below w.heap.size w j:=by rw[g];exact eB
 rw[<-g];clear g;go_quiet (fail);go_wp2;go_loopw [5,6,14] (λd o i wr=> ∃(k:Nat) (q r:Int),k<=n/\i=.int .i64 k/\d=.int .i64 q/\o=.int .i64 r/\(-840<=r/\r<=840)/\jI t xs 0 a=jI t (xs.drop k) q r/\Below w.heap.size w wr) (λ_ _ i _=>n-(intOf i).toNat)
 case atStart=>exact⟨0,0,a,Nat.zero_le _,rfl,rfl,rfl,D,rfl,below_drewN F _⟩
 case round=>
  obtain⟨k,q,r,P,rfl,rfl,rfl,⟨u,v⟩,C,hb⟩:=hrel;have p:=Hm C;have l:=Hm hb;clear C hb;by_cases G:k<n
  ·obtain⟨b,off,x,rfl,O,s,J,f1,K,L⟩:=(m.b l.o).shift G;obtain⟨H,I,U,W⟩:=E.o x (List.mem_of_mem_drop (i:=k) (by rw[s.o];simp));have S:(0:Int)<=(k:Int):=by omega
   have T:(k:Int)<(n:Int):=by omega
   have hw:IntKind.i64.wrap (x.at_-1)=x.at_-1:=IntWalk.i64_in _ Ho;by_cases hs:t<x.at_
   ·have f:Hl (jI t xs 0 a=max q (kv t r)):=Hm (by rw[p.o,s.o,jI,if_pos hs]);go_wp2_with (go_at_call 194;refine(wU _ _ Ho Ho u v _).mono ?_;rintro e w' ⟨rfl,rfl⟩);all_goals
     go_ret;exact⟨eQ (by rw[B.o,f.o];first|rfl|omega),eu l.o eB⟩
   ·have f:Hl (jI t xs 0 a=jI t (xs.drop (k+1)) (max q (kv (x.at_-1) r)) x.offset):=Hm (by rw[p.o,s.o,jI,if_neg hs]);go_wp2;go_region_held3 (λV=>V.cell? ⟨wr.heap.size,0,none⟩=some (.int .i64 x.at_)/\V.cell? ⟨wr.heap.size,1,none⟩=some (.int .i64 x.offset)) (first|go_keep|fail) (first|(go_at_call 194;(try rw[hw]);refine(wU _ _ Ho Ho u v _).mono ?_;rintro e w' ⟨rfl,rfl⟩));go_wp2;all_goals
     go_roundw
     case rel=>exact⟨k+1,_,_,Ho,by go_num,rfl,rfl,⟨H,I⟩,by first|exact f.o|(rw[f.o];congr 1;omega),below_drewN (eu l.o eB) _⟩
     case measure=>simp[intOf];omega
  ·have f:Hl (jI t xs 0 a=max q (kv t r)):=Hm (by rw[p.o,fG m.len Ho,jI]);go_wp2_with (go_at_call 194;refine(wU _ _ Ho Ho u v _).mono ?_;rintro e w' ⟨rfl,rfl⟩);all_goals
    go_ret;exact⟨eQ (by rw[B.o,f.o];first|rfl|omega),l.o⟩
theorem Kc (w:World)(A:Option Addr)(n c:Nat)(z:Zone)(j:In w A n c z.shifts)(r:jP z.offset)(t:Int):
  Calls Tryz.prog 153 #[.agg #[.string z.name,.int .i64 z.offset,.slice A n c],.int .i64 t] w λe w'=>e=.returned (.tuple #[.int .i64 (qM z t).1,.int .i64 (qM z t).2])/\Below w.heap.size w w':=by
 go_enter Tryz.func153,Tryz.ntmps153;go_wp2_with fail;refine(FK _ A n c z (j.b eB) r t).mono ?_;rintro e u ⟨rfl,d⟩;have i:=eu eB d;have s:=eG (b:=w.heap.size) (o:=0) (v:=.string z.name) d II (by simp[go_sem]);have g1:=eG (b:=w.heap.size) (o:=1) (v:=.int .i64 z.offset) d II (by simp[go_sem]);have g2:=eG (b:=w.heap.size) (o:=2) (v:=.slice A n c) d II (by simp[go_sem]);clear d;by_cases a:jT z t=0
 ·have g:Hl (qM z t=(vG z t,0)):=Hm (by rw[qM,if_neg (by simp[a])]);have f:fD z=0/\0<=t/\t<=575999999:=by
   rw[jT]at a
   split at a
   ·omega
   ·split at a
    ·omega
    ·omega
  obtain⟨f,l,m⟩:=f;have k:=Hm f;rw[a];clear a f;go_wp2_with fail;refine(Gs _ A n c z (j.b i) k.o t l m).mono ?_;rintro e x ⟨rfl,p⟩;go_wp2;go_ret2;exact⟨by rw[g.o];rfl,eu i p⟩
 ·have g:Hl (qM z t=(0,jT z t)):=Hm (by rw[qM,if_pos a]);have q:(jT z t != 0)=true:=by simpa using a
  clear a;go_wp2;go_ret2;exact⟨by rw[g.o];rfl,i⟩
theorem Ke (w:World)(A:Option Addr)(n c:Nat)(z:Zone)(j:In w A n c z.shifts)(r:jP z.offset)(t:Int):
  Calls Tryz.prog 189 #[.agg #[.string z.name,.int .i64 z.offset,.slice A n c],.int .i64 t] w λe w'=>e=.returned (.tuple #[.int .i64 (qM z t).1,.int .i64 (qM z t).2])/\Below w.heap.size w w':=by
 go_enter Tryz.func189,Tryz.ntmps189;go_wp2_with fail;refine(FL _ A n c z (j.b eB) r t).mono ?_;rintro e u ⟨rfl,f⟩;have i:=eu eB f;have s:=eG (b:=w.heap.size) (o:=0) (v:=.string z.name) f II (by simp[go_sem]);have g1:=eG (b:=w.heap.size) (o:=1) (v:=.int .i64 z.offset) f II (by simp[go_sem]);have g2:=eG (b:=w.heap.size) (o:=2) (v:=.slice A n c) f II (by simp[go_sem]);clear f;by_cases a:jT z t=0
 ·have d:fD z=0/\0<=t/\t<=575999999:=by
   rw[jT]at a
   split at a
   ·omega
   ·split at a
    ·omega
    ·omega
  obtain⟨d,l,m⟩:=d;have g:Hl (qM z t=(JA z t,0)):=Hm (by rw[qM,if_neg (by simp[a]),Ml d]);have k:=Hm d;rw[a];clear a d;go_wp2_with fail;refine(IP _ A n c z (j.b i) k.o t l m).mono ?_;rintro e x ⟨rfl,p⟩;go_wp2;go_ret2;exact⟨by rw[g.o];rfl,eu i p⟩
 ·have g:Hl (qM z t=(0,jT z t)):=Hm (by rw[qM,if_pos a]);have q:(jT z t != 0)=true:=by simpa using a
  clear a;go_wp2;go_ret2;exact⟨by rw[g.o];rfl,i⟩
def pz (xs a:List Ent):Int×List Ent:=if fA xs≠0 then(fA xs,[]) else if fA a≠0 then(fA a,[]) else mE (xs++a)
def F8 (xs:List Ent):Int×List Ent:=if eH (λ_ x=>gy x) 0 xs≠0 then(eH (λ_ x=>gy x) 0 xs,[]) else mE xs
def xK (at_:Int)(z:Zone)(rows:List Ent)(d:Int):List Ent:=rows.filter λx=>oV at_ z x.row != d
def AB (at_:Int)(z:Zone)(old new:List Ent)(a:List Int):Prop:=
 Asc a/\ ∀d,d∈a↔nL at_ z old d≠nL at_ z new d
theorem uF {b:List Ent}(h:fA b=0)(p:Ent->Bool):fA (b.filter p)=0:=by
 obtain⟨a,c,d⟩:=jR.1 h;exact jR.2 ⟨Nat.le_trans (List.length_filter_le _ _) a,λx e=>c x (List.mem_filter.1 e).1,d.filter p⟩
theorem Kn {xs:List Ent}:eH (λ_ x=>gy x) 0 xs=0↔ ∀x∈xs,gy x=0:=by
 rw[uo];constructor
 ·intro h x a;obtain⟨j,b⟩:=List.mem_iff_getElem?.1 a;exact h j x b
 ·intro h j x a;exact h x (List.mem_iff_getElem?.2 ⟨j,a⟩)
theorem zh {xs:List Ent}(h: ∀x∈xs,gy x=0):F8 xs=mE xs:=by
 rw[F8,if_neg (by rw[Kn.2 h];simp)]
theorem pV {b:List Ent}(h:fA b=0): ∀x∈b,gy x=0:=λx a=>((jR.1 h).2.1 x a).1
theorem uJ {p:Ent->Bool}{l:List Ent}{r:List Val}(h: ∀x∈l,x.row=r->p x=true):cnt (l.filter p) r=cnt l r:=by
 induction l with
 |nil=>rfl
 |cons x l a=>
  have a:=a λy b=>h y (by simp[b]);by_cases q:p x=true
  ·rw[List.filter_cons_of_pos q,cnt,cnt,a]
  ·rw[List.filter_cons_of_neg q,cnt,a,if_neg]
   ·omega
   ·intro e;exact q (h x II (iG.1 e))
theorem uI {p:Ent->Bool}{l:List Ent}{r:List Val}(h: ∀x∈l,x.row=r->p x=false):cnt (l.filter p) r=0:=by
 refine lS λx c e=>?_;obtain⟨b,a⟩:=List.mem_filter.1 c;rw[h x b (iG.1 e)]at a;cases a
theorem Gp {at_:Int}{z:Zone}{l:List Ent}{d:Int}{r:List Val}:cnt (xK at_ z l d) r=if oV at_ z r=d then 0 else cnt l r:=by
 split
 ·rename_i h;exact uI λx _ e=>by rw[e,h];simp
 ·rename_i h;exact uJ λx _ e=>by rw[e];simpa using h
theorem uk {at_:Int}{z:Zone}{l:List Ent}{d:Int}{r:List Val}:cnt (nL at_ z l d) r=if oV at_ z r=d then cnt l r else 0:=by
 split
 ·rename_i h;exact uJ λx _ e=>by rw[e];simpa using h
 ·rename_i h;exact uI λx _ e=>by rw[e];simpa using h
structure Mixed (at_:Int) (z:Zone) (old new now:List Ent) (done:List Int):Prop where
 bag:fA now=0
 cnt: ∀r,cnt now r=if oV at_ z r∈done then cnt new r else cnt old r
theorem Mixed.start {at_:Int}{z:Zone}{old new:List Ent}(h:fA old=0):Mixed at_ z old new old []:=⟨h,λr=>by simp⟩
theorem vg {b:List Ent}(h:fA b=0):Lp b:=λx a=>((jR.1 h).2.1 x a).2
theorem mO {b:List Ent}(h:fA b=0):lD b:=(jR.1 h).2.2
theorem FR {a b:List Ent}(h:fA a=0)(c:fA b=0)(d: ∀r,Proofs.YthnelebakkggjaaGreatDoor.cnt a r=Proofs.YthnelebakkggjaaGreatDoor.cnt b r):a=b:=Bv (mO h) (mO c) (vg h) (vg c) d
theorem BX {b:List Ent}(h:fA b=0){r:List Val}:Proofs.YthnelebakkggjaaGreatDoor.cnt b r≠0↔ ∃x∈b,x.row=r:=by
 constructor
 ·intro q;by_cases g: ∃x∈b,x.row=r
  ·exact g
  ·exact absurd (lS λx a e=>g ⟨x,a,iG.1 e⟩) q
 ·rintro⟨x,a,rfl⟩;rw[(mO h).mem a];exact vg h x a
theorem Hd {at_:Int}{z:Zone}{a b:List Ent}(h:fA a=0)(c:fA b=0){d:Int}(e: ∀r,oV at_ z r=d->Proofs.YthnelebakkggjaaGreatDoor.cnt a r=Proofs.YthnelebakkggjaaGreatDoor.cnt b r):nL at_ z a d=nL at_ z b d:=
 FR (uF h _) (uF c _) λr=>by
  show Proofs.YthnelebakkggjaaGreatDoor.cnt (nL at_ z a d) r=Proofs.YthnelebakkggjaaGreatDoor.cnt (nL at_ z b d) r;rw[uk,uk]
  split
  ·rename_i q;exact e r q
  ·rfl
theorem Mixed.ne {at_:Int}{z:Zone}{old new now:List Ent}{a done l:List Int}{d:Int}(h:Mixed at_ z old new now done)(i:fA old=0)(g:fA new=0)(c:AB at_ z old new a)(e:a=done++d::l):now≠new:=by
 rintro rfl;have f:=(c.2 d).1 (by rw[e];simp);apply f;refine Hd i g λr j=>?_;have b:=h.cnt r;rw[if_neg]at b
 ·exact b.symm
 ·rw[j];intro q;have:=c.1;rw[e]at this;have:=(List.pairwise_append.1 this).2.2 d q d II;omega
theorem Mixed.fin {at_:Int}{z:Zone}{old new now:List Ent}{a:List Int}(h:Mixed at_ z old new now a)(d:fA old=0)(c:fA new=0)(b:AB at_ z old new a):now=new:=by
 refine FR h.bag c λr=>?_;rw[h.cnt]
 split
 ·rfl
 ·rename_i q;rw[b.2]at q;have q:nL at_ z old (oV at_ z r)=nL at_ z new (oV at_ z r):=by
   by_cases g:nL at_ z old (oV at_ z r)=nL at_ z new (oV at_ z r)
   ·exact g
   ·exact absurd g q
  have:=congrArg (λl=>Proofs.YthnelebakkggjaaGreatDoor.cnt l r) q;simpa[uk] using this
theorem x9 {b:List Ent}(h:lD b)(j:Lp b){l:List Ent}(c: ∀r,Proofs.YthnelebakkggjaaGreatDoor.cnt b r≠0-> ∃x∈l,x.row=r):b.length<=l.length:=by
 have d:(b.map Ent.row).Nodup:=by
  rw[List.nodup_iff_pairwise_ne,List.pairwise_map];refine h.imp λ{x y} q e=>?_;rw[e,iG.2 rfl]at q;omega
 have g: ∀r∈b.map Ent.row,r∈l.map Ent.row:=λr f=>by
  obtain⟨x,a,rfl⟩:=List.mem_map.1 f;obtain⟨y,i,e⟩:=c x.row (by rw[h.mem a];exact j x a);exact List.mem_map.2 ⟨y,i,e⟩
 have:=d.length_le_of_subset g;simpa using this
theorem Mixed.rows {at_:Int}{z:Zone}{old new now:List Ent}{done:List Int}(h:Mixed at_ z old new now done): ∀x∈now,∃y∈old++new,y.row=x.row:=λx c=>by
 have b:=(BX h.bag (r:=x.row)).2 ⟨x,c,rfl⟩;by_cases g: ∃y∈old++new,y.row=x.row
 ·exact g
 ·exfalso;rw[h.cnt]at b;apply b
  split
  ·exact lS λy a e=>g ⟨y,by simp[a],iG.1 e⟩
  ·exact lS λy a e=>g ⟨y,by simp[a],iG.1 e⟩
theorem Mixed.len {at_:Int}{z:Zone}{old new now:List Ent}{done:List Int}(h:Mixed at_ z old new now done):now.length<=(old++new).length:=
 x9 (mO h.bag) (vg h.bag) λr a=>by
  obtain⟨x,b,rfl⟩:=(BX h.bag).1 a;exact h.rows x b
theorem Mixed.step {at_:Int}{z:Zone}{old new now:List Ent}{done:List Int}{d:Int}(h:Mixed at_ z old new now done)(o:fA old=0)(k:fA new=0)(t:(old++new).length<=4096):
  ∃m,mE (xK at_ z now d++nL at_ z new d)=(0,m)/\Mixed at_ z old new m (done++[d]):=by
 have i: ∀r,Proofs.YthnelebakkggjaaGreatDoor.cnt (xK at_ z now d++nL at_ z new d) r=if oV at_ z r∈done++[d] then Proofs.YthnelebakkggjaaGreatDoor.cnt new r else Proofs.YthnelebakkggjaaGreatDoor.cnt old r:=λr=>by
  rw[oD,Gp,uk,h.cnt];by_cases q:oV at_ z r=d
  ·simp[q]
  ·simp[q]
 have p: ∀x∈xK at_ z now d++nL at_ z new d,gy x=0:=λx a=>by
  rcases List.mem_append.1 a with a|a
  ·exact pV h.bag x (List.mem_filter.1 a).1
  ·exact pV k x (List.mem_filter.1 a).1
 have j:iN 0 (iE (iO (xK at_ z now d++nL at_ z new d)))=false:=by
  refine(og _ 0 (lw _) Ho).2 ⟨λx a=>?_,?_⟩
  ·have c:=(nQ (oo _)).mem a;rw[mh,mq,i]at c;have s:=lw _ x a;have: ∀b:List Ent,fA b=0->Proofs.YthnelebakkggjaaGreatDoor.cnt b x.row=x.count-> -65536<=x.count/\x.count<=65536:=λb hb e=>by
    obtain⟨y,f,n⟩:=(BX hb (r:=x.row)).1 (by rw[e];exact s);have:=(mO hb).mem f;rw[n,e]at this;have:=vI (pV hb y f);omega
   split at c
   ·exact this new k c
   ·exact this old o c
  ·have:(iE (iO (xK at_ z now d++nL at_ z new d))).length<=(old++new).length:=
    x9 (nQ (oo _)) (lw _) λr l=>by
     rw[mh,mq,i]at l;by_cases g: ∃y∈old++new,y.row=r
     ·exact g
     ·exfalso;apply l
      split
      ·exact lS λy f e=>g ⟨y,by simp[f],iG.1 e⟩
      ·exact lS λy f e=>g ⟨y,by simp[f],iG.1 e⟩
   omega
 rw[lZ]at j;have hb:mE (xK at_ z now d++nL at_ z new d)=(0,iE (iO (xK at_ z now d++nL at_ z new d))):=by rw[mE,j];simp
 have c:=xU p;rw[hb]at c;exact⟨_,hb,c,λr=>by rw[mh,mq,i]⟩
def Has (k:Kd)(v:Val):Prop:=valid v=true/\(v.kind=k.kind\/(v.kind=0/\k.null=true))
def lJ (k:Kd):Prop:=0<=k.kind/\k.kind<=4/\(k.kind=0->k.null=true)
def pu:List Kd->List Val->Prop
 | [],[]=>True
 |k::ks,v::vs=>(lJ k/\Has k v)/\pu ks vs
 | _,_=>False
theorem pu.len: ∀{ks:List Kd} {vs:List Val},pu ks vs->ks.length=vs.length
 | [],[],_=>rfl
 | _::_,_::_,h=>by rw[List.length_cons,List.length_cons,pu.len h.2]
 | [],_::_,h=>h.elim
 | _::_,[],h=>h.elim
theorem pu.take: ∀{ks:List Kd} {vs:List Val} (n:Nat),pu ks vs->pu (ks.take n) (vs.take n)
 | [],[],_,_=>by simp[pu]
 | _::_,_::_,0,_=>trivial
 | _::_,_::_,n+1,h=>⟨h.1,pu.take n h.2⟩
 | [],_::_,_,h=>h.elim
 | _::_,[],_,h=>h.elim
theorem pu.drop: ∀{ks:List Kd} {vs:List Val} (n:Nat),pu ks vs->pu (ks.drop n) (vs.drop n)
 | [],[],_,_=>by simp[pu]
 | _::_,_::_,0,h=>h
 | _::_,_::_,n+1,h=>pu.drop n h.2
 | [],_::_,_,h=>h.elim
 | _::_,[],_,h=>h.elim
theorem pu.push {k:Kd}{v:Val}(a:lJ k/\Has k v): ∀{ks:List Kd} {vs:List Val},pu ks vs->pu (ks++[k]) (vs++[v])
 | [],[],_=>⟨a,trivial⟩
 | _::_,_::_,h=>⟨h.1,pu.push a h.2⟩
 | [],_::_,h=>h.elim
 | _::_,[],h=>h.elim
theorem pu.valid: ∀{ks:List Kd} {vs:List Val},pu ks vs-> ∀v∈vs,valid v=true
 | [],[],_,_,h=>by cases h
 |k::ks,x::vs,h,v,a=>by
  rcases List.mem_cons.1 a with rfl|a
  ·exact h.1.2.1
  ·exact pu.valid h.2 v a
 | [],_::_,h,_,_=>h.elim
 | _::_,[],h,_,_=>h.elim
theorem BK:(⟨#[]⟩:ByteArray).toList=[]:=by rw[ByteArray.toList_eq]
theorem qC:jH ⟨#[]⟩=true:=by rw[jH,BK];rfl
theorem oq:valid fP=true:=by simp[valid,fP,qC]
theorem kF (b:Bool):valid (iM b)=true:=by cases b<;>simp[valid,iM,qC]
theorem qj (n:Int)(ok:Bool)(h:ok=true->gX n=true):valid (jb n ok)=true:=by
 cases ok
 ·exact oq
 ·have:=h rfl;simp[gX]at this;simp[jb,valid,qC];omega
theorem zI (n:Int):valid (o7 n)=true:=by
 rw[o7]
 split
 ·exact oq
 ·simp[valid,qC];omega
theorem Ic {a b:Int}:(rE a b).2=true->gX (rE a b).1=true:=by
 rw[rE];split
 ·rename_i h;intro _;simp[Bool.and_eq_true]at h;exact h.2
 ·intro h;cases h
theorem wY {a b:Int}:(kR a b).2=true->gX (kR a b).1=true:=by
 rw[kR];split
 ·rename_i h;intro _;simp[Bool.and_eq_true]at h;exact h.2
 ·intro h;cases h
theorem Ih {a b:Int}:(rT a b).2=true->gX (rT a b).1=true:=by
 rw[rT];split
 ·rename_i h;intro _;simp[Bool.and_eq_true]at h;exact h.2
 ·intro h;cases h
theorem KS {a b:Int}(c: -1073741824<=a/\a<=1073741824)(hb:b≠0): -1073741824<=a.fdiv b/\a.fdiv b<=1073741824:=by
 have key: ∀(a b:Int),0<b-> -1073741824<=a->a<=1073741824-> -1073741824<=a.fdiv b/\a.fdiv b<=1073741824:=by
  intro a b hb d e;rw[Int.fdiv_eq_ediv_of_nonneg _ Ho];constructor
  ·rw[Int.le_ediv_iff_mul_le hb];have:(-1073741824:Int)*b<= -1073741824*1:=Int.mul_le_mul_of_nonpos_left Ho Ho;omega
  ·have:a / b<1073741825:=by
    rw[Int.ediv_lt_iff_lt_mul hb];have:(1073741825:Int)*1<=1073741825*b:=Int.mul_le_mul_of_nonneg_left Ho Ho;omega
   omega
 rcases Int.lt_or_gt_of_ne hb with h|h
 ·have:=key (-a) (-b) Ho Ho Ho;rw[Int.neg_fdiv_neg]at this;exact this
 ·exact key a b Ho c.1 c.2
theorem KT {a b:Int}(hb: -1073741824<=b/\b<=1073741824)(e:b≠0): -1073741824<=a.fmod b/\a.fmod b<=1073741824:=by
 rcases Int.lt_or_gt_of_ne e with h|h
 ·have c:=Int.fmod_nonneg_of_pos (-a) (b:= -b) Ho;have d:=Int.fmod_lt_of_pos (-a) (b:= -b) Ho;rw[Int.neg_fmod_neg]at c d;omega
 ·have c:=Int.fmod_nonneg_of_pos a (b:=b) Ho;have d:=Int.fmod_lt_of_pos a (b:=b) Ho;omega
theorem Ie {a b:Int}:(oW a b).2=true->gX (oW a b).1=true:=by
 rw[oW];split
 ·rename_i h;intro _;simp[gX]at h;have:=KS (a:=a) (b:=b) Ho h.2;simp[gX];omega
 ·intro h;cases h
theorem Ig {a b:Int}:(pI a b).2=true->gX (pI a b).1=true:=by
 rw[pI];split
 ·rename_i h;intro _;simp[gX]at h;have:=KT (a:=a) (b:=b) Ho h.2;simp[gX];omega
 ·intro h;cases h
theorem tJ {t o:Int}(b:t<=575999999)(a:o<=840):kv t o<=400001:=by
 unfold kv;split<;>omega
theorem yE {t:Int}(b:t<=575999999): ∀(l:List Shift) (a o:Int),(∀s∈l,s.offset<=840/\s.at_<=575999999)->o<=840->0<=a->a<=400001->0<=jI t l a o/\jI t l a o<=400001
 | [],a,o,_,ho,h0,h1=>by
  have:=tJ b ho;rw[jI];omega
 |s::l,a,o,h,ho,h0,h1=>by
  have hs:=h s II;have d:=tJ b ho;have e:=tJ (t:=s.at_-1) (o:=o) Ho ho;rw[jI]
  split
  ·omega
  ·exact yE b l _ _ (λq c=>h q (by simp[c])) hs.1 Ho Ho
theorem IM {z:Zone}(c:fD z=0){t:Int}(b:t<=575999999):0<=vG z t/\vG z t<=400001:=by
 obtain⟨d,a⟩:=wC c;exact yE b z.shifts 0 z.offset (λs hs=>⟨(a s hs).2.1,(a s hs).2.2.2⟩) Ho Ho Ho
theorem EE (z:Zone)(t:Int):gX (qM z t).1=true:=by
 rw[qM]
 split
 ·rfl
 ·rename_i h;have h:jT z t=0:=by omega
  rw[jT]at h
  split at h
  ·omega
  ·split at h
   ·omega
   ·have:=IM (z:=z) Ho (t:=t) Ho;simp[gX];omega
theorem l9 {v:Val}(h:valid v=true):v.ok:=by
 obtain⟨k,n,s⟩:=v;have e: ∀s:ByteArray,jH s=true->Str s:=by
  intro s hs;rw[jH,List.isEmpty_iff]at hs;have:s.size=s.toList.length:=by rw[ByteArray.toList_eq];rfl
  unfold Str;rw[this,hs];exact Nat.zero_le _
 rw[valid]at h;simp only at h;refine⟨?_,?_,?_⟩<;>simp only
 ·unfold jP;(repeat' split at h)<;>first|omega|(subst_vars;omega)|(cases h)
 ·unfold jP;(repeat' split at h)<;>simp at h<;>omega
 ·(repeat' split at h)<;>simp at h<;>first|exact e _ h.2|exact e _ h.1|(unfold Str;omega)
theorem FI {v:Val}(h:valid v=true):0<=v.kind/\v.kind<=4:=by
 rw[valid]at h
 (repeat' split at h)<;>first|omega|(cases h)
theorem Ad {v:Val}(h:valid v=true)(b:v.kind=0):v=fP:=by
 obtain⟨k,n,s⟩:=v;simp only at b;subst b;simp[valid,jH]at h;obtain⟨c,a⟩:=h;subst c;have:s=⟨#[]⟩:=by
  rw[ByteArray.toList_eq]at a;obtain⟨⟨l⟩⟩:=s;simp at a;subst a;rfl
 subst this;rfl
theorem tu {k:Kd}{v:Val}(b:lJ k)(h:Has k v)(c:v.kind=0):k.null=true:=by
 rcases h.2 with a|a
 ·exact b.2.2 Ho
 ·exact a.2
theorem q9 {k:Kd}{v:Val}(c:lJ k)(h:Has k v){j:Int}(b:fits k j=true):v.kind=j\/v.kind=0:=by
 simp[fits]at b;rcases h.2 with a|a
 ·omega
 ·exact .inr a.1
theorem jW {k:Int}{b:Bool}{v:Val}(a:valid v=true)(h:v.kind=k\/(v.kind=0/\b=true)):Has ⟨k,b⟩ v:=⟨a,h⟩
theorem rf {k:Kd}(h:k.null=true):Has k fP:=⟨oq,.inr ⟨rfl,h⟩⟩
theorem Ha (n:Int)(ok:Bool):(jb n ok).kind=2\/(jb n ok).kind=0:=by cases ok<;>simp[jb,fP]
theorem Bf (n:Int):(o7 n).kind=4\/(o7 n).kind=0:=by rw[o7];split<;>simp[fP]
theorem wL {x y:Kd}(h:(common x y).2=true):(x.kind=(common x y).1\/x.kind=0)/\(y.kind=(common x y).1\/y.kind=0):=by
 rw[common]at h⊢
 split
 ·rename_i a;exact⟨.inr a,.inl rfl⟩
 ·rename_i a;rw[if_neg a]at h;simp[fits]at h;exact⟨.inl rfl,h⟩
theorem yB {x y:Kd}(a:lJ x)(b:lJ y):0<=(common x y).1/\(common x y).1<=4:=by
 rw[common];split
 ·exact⟨b.1,b.2.1⟩
 ·exact⟨a.1,a.2.1⟩
theorem xu {x y:Kd}(h:(common x y).2=true)(a:(common x y).1=0):x.kind=0/\y.kind=0:=by
 have:=wL h;omega
theorem JJ {zs:List Zone}{b:Int}{nm:ByteArray}{x:Kd}{v:Val}(i:b=2\/b=3\/b=16\/b=19\/b=20)(g:lJ x)(d:Has x v)(h:(jc b x).2=true):
  lJ (jc b x).1/\Has (jc b x).1 (xR zs b nm v):=by
 by_cases a:v.kind=0
 ·have e:=tu g d a;rcases i with rfl|rfl|rfl|rfl|rfl
  ·simp[jc,xR,a,lJ];exact rf e
  ·simp[jc,xR,a,lJ];exact rf e
  ·simp[jc,xR,a,lJ];exact jW (kF _) (.inl rfl)
  ·simp[jc,xR,a,lJ];exact rf e
  ·simp[jc,xR,a,lJ];exact rf e
 ·rcases i with rfl|rfl|rfl|rfl|rfl
  ·simp[jc,xR,a,lJ];exact jW (kF _) (.inl rfl)
  ·have f:=(q9 g d (j:=2) (by simpa[jc] using h)).resolve_right a;have hs:(kR 0 v.num).2=true:=by
    have c:=d.1;rw[valid,if_neg a,if_neg Ho,if_pos f]at c;simp at c;rw[kR,if_pos (by simp[gX];omega)]
   simp[jc,xR,a,lJ,hs];exact jW (qj _ _ λ_=>wY hs) (.inl rfl)
  ·simp[jc,xR,a,lJ];exact jW (kF _) (.inl rfl)
  ·have f:=(q9 g d (j:=3) (by simpa[jc] using h)).resolve_right a;have hs:v.str.size<=64:=by
    have c:=d.1;rw[valid,if_neg a,if_neg Ho,if_neg Ho,if_pos f]at c;simp at c;exact c.2
   simp[jc,xR,a,lJ];exact jW (qj _ _ λ_=>by simp[gX];omega) (.inl rfl)
  ·simp[jc,xR,a,lJ];exact jW (qj _ _ λ_=>EE _ _) (.inl rfl)
theorem xG {a b:Val}{s:Int}{x y:Kd}(o:lJ x)(l:Has x a)(p:lJ y)(hb:Has y b)(i:fits x 1=true)(j:fits y 1=true):Has ⟨1,x.null || y.null⟩ (iP a b s):=by
 rw[iP]
 split
 ·exact jW (kF _) (.inl rfl)
 ·split
  ·rename_i q c;refine jW oq (.inr ⟨rfl,?_⟩);have key: ∀{k:Kd} {v:Val},lJ k->Has k v->fits k 1=true->truth v<0->k.null=true:=by
    intro k v g e m n;rcases q9 g e m with d|d
    ·exfalso;rw[truth,if_pos ⟨d,e.1⟩]at n;have f:=e.1;rw[valid,if_neg Ho,if_pos d]at f;simp at f;omega
    ·exact tu g e d
   rcases c with c|c
   ·rw[key o l i c];rfl
   ·rw[key p hb j c];simp
  ·exact jW (kF _) (.inl rfl)
theorem Gh {zs:List Zone}{n:Node}{x y:Kd}{a b:Val}(H:(4<=n.op/\n.op<=15)\/n.op=18)(g:lJ x)(e:Has x a)(j:lJ y)(hb:Has y b)(h:(fH n.op x y).2=true):
  lJ (fH n.op x y).1/\Has (fH n.op x y).1 (jl zs n [a,b]):=by
 obtain⟨c,v,nm,J⟩:=n;simp only at H h⊢;by_cases p:c=14
 ·subst p;simp[fH]at h;simp[fH,jl,lJ];exact xG g e j hb h.1 h.2
 by_cases r:c=15
 ·subst r;simp[fH]at h;simp[fH,jl,lJ];exact xG g e j hb h.1 h.2
 by_cases s:c=18
 ·subst s;simp[fH]at h;have t:=wL h;have w:=yB g j;have I:=xu h;simp only[fH,jl];refine⟨⟨w.1,w.2,λd=>?_⟩,?_⟩
  ·simp only[Int.reduceEq,or_self,if_false,if_true]at d⊢;have:=I d;simp[g.2.2 this.1,j.2.2 this.2]
  ·simp only[Int.reduceEq,or_self,if_false,if_true];by_cases f:a.kind=0
   ·rw[if_pos f];have z:=tu g e f;refine jW hb.1 ?_;rcases hb.2 with k|k
    ·rcases t.2 with m|m
     ·exact .inl Ho
     ·exact .inr ⟨Ho,by simp[z,j.2.2 m]⟩
    ·exact .inr ⟨k.1,by simp[z,k.2]⟩
   ·rw[if_neg f];refine jW e.1 ?_;rcases e.2 with k|k
    ·rcases t.1 with m|m
     ·exact .inl Ho
     ·omega
    ·omega
 have M:4<=c/\c<=13:=by omega
 have F:lJ (fH c x y).1:=by
  have l:c=4\/c=5\/c=6\/c=7\/c=8\/c=9\/c=10\/c=11\/c=12\/c=13:=by omega
  rcases l with rfl|rfl|rfl|rfl|rfl|rfl|rfl|rfl|rfl|rfl<;>simp[fH]<;>(repeat' split)<;>simp[lJ]
 refine⟨F,?_⟩;simp only[jl];rw[if_neg p,if_neg r,if_neg s];by_cases d:a.kind=0\/b.kind=0
 ·rw[if_pos d];refine rf ?_;have u:x.null=true\/y.null=true:=by
   rcases d with d|d
   ·exact .inl (tu g e d)
   ·exact .inr (tu j hb d)
  have G:(x.null || y.null)=true:=by simpa using u
  have l:c=4\/c=5\/c=6\/c=7\/c=8\/c=9\/c=10\/c=11\/c=12\/c=13:=by omega
  rcases l with rfl|rfl|rfl|rfl|rfl|rfl|rfl|rfl|rfl|rfl<;>simp[fH]<;>(repeat' split)<;>first|exact G|rfl|(simp;done)|simpa using u
 ·rw[if_neg d];have f:a.kind≠0:=λq=>d (.inl q);have o:b.kind≠0:=λq=>d (.inr q);have K:a.kind=x.kind:=e.2.resolve_right λq=>f q.1;have L:b.kind=y.kind:=hb.2.resolve_right λq=>o q.1;have num: ∀n ok,(ok=true->gX n=true)->Has ⟨2,true⟩ (jb n ok):=λn ok E=>jW (qj n ok E) ((Ha n ok).elim .inl λq=>.inr ⟨q,rfl⟩);have l:c=4\/c=5\/c=6\/c=7\/c=8\/c=9\/c=10\/c=11\/c=12\/c=13:=by omega
  rcases l with rfl|rfl|rfl|rfl|rfl|rfl|rfl|rfl|rfl|rfl
  ·simp only[fH,iW,gQ,Int.reduceEq,or_self,if_false,if_true];by_cases i:x.kind=4
   ·rw[if_pos i,if_pos Ho];exact jW (zI _) ((Bf _).elim .inl λq=>.inr ⟨q,rfl⟩)
   ·rw[if_neg i,if_neg Ho];exact num _ _ Ic
  ·simp only[fH,iW,gQ,Int.reduceEq,or_self,if_false,if_true]at h⊢;by_cases A:y.kind=4
   ·rw[if_pos A]at h⊢;have i:a.kind=4:=(q9 g e h).resolve_right f;rw[if_neg Ho];have B:=e.1;have C:=hb.1;rw[valid,if_neg f,if_neg Ho,if_neg Ho,if_neg Ho,if_pos i]at B;rw[valid,if_neg o,if_neg Ho,if_neg Ho,if_neg Ho,if_pos Ho]at C;simp at B C;have hs:(kR a.num b.num).2=true:=by rw[kR,if_pos (by simp[gX];omega)]
    rw[hs];exact jW (qj _ _ λ_=>wY hs) (.inl rfl)
   ·rw[if_neg A]at h⊢;by_cases i:x.kind=4
    ·rw[if_pos i]at h⊢;have D:b.kind=2:=(q9 j hb h).resolve_right o;rw[if_pos ⟨Ho,D⟩];exact jW (zI _) ((Bf _).elim .inl λq=>.inr ⟨q,rfl⟩)
    ·rw[if_neg i]at h⊢;rw[if_neg Ho];exact num _ _ wY
  ·simp only[fH,iW,gQ,Int.reduceEq,or_self,or_false,false_or,or_true,true_or,if_false,if_true];exact num _ _ Ih
  ·simp only[fH,iW,gQ,Int.reduceEq,or_self,or_false,false_or,or_true,true_or,if_false,if_true];exact num _ _ Ie
  ·simp only[fH,iW,gQ,Int.reduceEq,or_self,or_false,false_or,or_true,true_or,if_false,if_true];exact num _ _ Ig
  ·simp only[fH,iW,Int.reduceEq,or_self,if_false,if_true]
   split
   ·exact rf rfl
   ·rename_i hs;exact jW (by simp[valid];simpa using hs) (.inl rfl)
  ·simp only[fH,iW,Int.reduceEq,or_self,if_false,if_true];exact jW (kF _) (.inl rfl)
  ·simp only[fH,iW,Int.reduceEq,or_self,if_false,if_true];exact jW (kF _) (.inl rfl)
  ·simp only[fH,iW,Int.reduceEq,or_self,if_false,if_true];exact jW (kF _) (.inl rfl)
  ·simp only[fH,iW,Int.reduceEq,or_self,if_false,if_true];exact jW (kF _) (.inl rfl)
theorem Jd {zs:List Zone}{n:Node}{y z:Kd}{a b c:Val}{m:List Val}(f:lJ y)(hb:Has y b)(o:lJ z)(r:Has z c)(h:(common y z).2=true):
  lJ ⟨(common y z).1,y.null || z.null⟩/\Has ⟨(common y z).1,y.null || z.null⟩ (jl zs n (a::b::c::m)):=by
 have d:=wL h;have j:=yB f o;have p:=xu h;refine⟨⟨j.1,j.2,λq=>?_⟩,?_⟩
 ·have:=p q;simp[f.2.2 this.1]
 ·have one: ∀{k:Kd} {v:Val},lJ k->Has k v->(k.kind=(common y z).1\/k.kind=0)->(k.null=true->(y.null || z.null)=true)->Has ⟨(common y z).1,y.null || z.null⟩ v:=by
   intro k v s l d i;refine jW l.1 ?_;rcases l.2 with e|e
   ·rcases d with g|g
    ·exact .inl Ho
    ·exact .inr ⟨Ho,i (s.2.2 g)⟩
   ·exact .inr ⟨e.1,i e.2⟩
  simp only[jl]
  split
  ·exact one f hb d.1 (λq=>by simp[q])
  ·exact one o r d.2 (λq=>by simp[q])
theorem In.part {w:World}{A:Option Addr}{n c k:Nat}{xs:List Partn}(h:In w A n c xs)(d:k<n): ∃b off x,A=some ⟨b,off,none⟩/\b<w.heap.size/\Hl (xs.drop k=x::xs.drop (k+1))/\
  ∃A' n' c',w.cell? ⟨b,off+k*2,none⟩=some (.int .i64 x.day)/\w.cell? ⟨b,off+k*2+1,none⟩=some (.slice A' n' c')/\In w A' n' c' x.rows/\jP x.day:=by
 obtain⟨b,off,x,e,hb,g,i,⟨A',n',c',rfl,hs,f⟩,a⟩:=h.get d;exact⟨b,off,x,e,hb,g,A',n',c',a 0 II,a 1 II,hs,f⟩
end Go.Proofs.YthnelebakkggjaaGreatDoor
