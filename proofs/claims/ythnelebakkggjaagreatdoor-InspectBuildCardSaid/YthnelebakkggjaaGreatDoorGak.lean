/-
  A stack that a call keeps in a slice of its own: what it reads as, its prefixes, an append to a prefix. No program is in sight. Kinds of operands: scalar.kind's methods, scalar.common, slices.ContainsFunc over kinds; the reference's fits and common. warehouseworld.Place, Zone, SameInts. partition.day, Day, check; warehouseref22.Day, days.
-/
import Derived.Test.YthnelebakkggjaaGreatDoorGae
import Derived.Test.YthnelebakkggjaaGreatDoorGai
namespace Go.Proofs.YthnelebakkggjaaGreatDoor
set_option maxHeartbeats 1000000
set_option maxRecDepth 100000
open Go.RowKit
set_option linter.unusedSimpArgs false
set_option linter.unusedVariables false
class Flat (α:Type) extends Rep α where
 cs:α->List Value
 ok:α->Prop
 rd_mk: ∀(w:World) (S:Nat->Prop) (a:α),ok a->rd w S (cs a) a
 cs_len: ∀a,(cs a).length=size
 cs_one: ∀a,∀u∈cs a,u.oneCell'=true
 pos:0<size
instance:Flat Int where
 cs n:=[.int .i64 n]
 ok:=jP
 rd_mk _ _ _ h:=⟨rfl,h⟩
 cs_len _:=rfl
 cs_one _ u hu:=by simp at hu;subst hu;rfl
 pos:=by decide
instance:Flat Val where
 cs v:=v.cells
 ok v:=v.ok
 rd_mk _ _ _ h:=⟨rfl,h⟩
 cs_len _:=rfl
 cs_one v u hu:=by simp[Val.cells]at hu;rcases hu with rfl|rfl|rfl<;>rfl
 pos:=by decide
section
variable {α:Type}[Flat α]
theorem pW (w:World)(S:Nat->Prop): ∀{xs:List α},(∀x∈xs,Flat.ok x)->Cells w S (xs.flatMap Flat.cs) xs
 | [],_=>rfl
 |x::xs,h=>⟨Flat.cs x,xs.flatMap Flat.cs,by simp,Flat.rd_mk w S x (h x II),pW w S λy a=>h y (by simp[a])⟩
theorem oI (xs:List α):(xs.flatMap Flat.cs).length=xs.length*Rep.size α:=by
 induction xs with
 |nil=>simp
 |cons x xs a=>rw[List.flatMap_cons,List.length_append,a,Flat.cs_len,List.length_cons,Nat.add_mul];omega
theorem Gy (xs:List α)(k:Nat):(xs.take k).flatMap Flat.cs=(xs.flatMap Flat.cs).take (k*Rep.size α):=by
 induction xs generalizing k with
 |nil=>simp
 |cons x xs b=>
  cases k with
  |zero=>simp
  |succ k=>
   have a:(Flat.cs x).length=Rep.size α:=Flat.cs_len x;rw[List.take_succ_cons,List.flatMap_cons,List.flatMap_cons,b,List.take_append,a,List.take_of_length_le (l:=Flat.cs x) (by rw[a,Nat.add_mul];omega),
    show(k+1)*Rep.size α-Rep.size α=k*Rep.size α from by rw[Nat.add_mul];omega]
theorem Cb {w:World}{B a:Nat}{e:TypeId}{size:Nat}{v:Value}{n:Nat}{xs:List Value}(h:w.ownsRow a e size v n xs)(f:B<=a):w.ownsRow B e size v n xs:=by
 refine⟨h.1,?_⟩;rcases h.2 with d|⟨g,cap,b,rfl,i,r⟩
 ·exact .inl d
 ·exact .inr ⟨g,cap,b,rfl,Nat.le_trans f i,r⟩
theorem vT {w w':World}{base:Nat}{e:TypeId}{size:Nat}{v:Value}{n:Nat}{xs:List Value}(h:w.ownsRow base e size v n xs)(i: ∀g,v.ownBlock=some g->w'.heap[g]?=w.heap[g]?):w'.ownsRow base e size v n xs:=by
 refine⟨h.1,?_⟩;rcases h.2 with b|⟨g,cap,a,rfl,d,f,r⟩
 ·exact .inl b
 ·exact .inr ⟨g,cap,a,rfl,d,by rw[i g rfl];exact f,r⟩
theorem Sl.from_ {β:Type}[Rep β]{w:World}{S:Nat->Prop}{A:Option Addr}{n c k:Nat}{xs:List β}(h:Sl w S A n c xs)(j:k<=n):
  Sl w S (if c=k then A else A.map (·.add (k*Rep.size β))) (n-k) (c-k) (xs.drop k):=by
 refine⟨by rw[List.length_drop,h.1],by have:=h.2.1;omega,by have:=h.2.2.1;omega,λd=>?_,λl=>?_⟩
 ·by_cases f:c=k
  ·omega
  ·rw[if_neg f]at d;have:=h.2.2.2.1 (by cases A with|none=>rfl|some a=>cases d);omega
 ·obtain⟨b,off,e,hb,hi⟩:=h.2.2.2.2 Ho;have:=h.2.1;rw[if_neg Ho,e];refine⟨b,off+k*Rep.size β,by rw[Option.map_some,jv],hb,λi g=>?_⟩;rw[List.length_drop]at g;have:=hi (k+i) Ho;rw[List.getElem_drop,show off+k*Rep.size β+i*Rep.size β=off+(k+i)*Rep.size β from by rw[Nat.add_mul];omega];exact this
structure Stk (B:Nat) (w:World) (e:TypeId) (A:Option Addr) (c:Nat) (xs:List α):Prop where
 own:w.ownsRow B e (Rep.size α) (.slice A xs.length c) xs.length (xs.flatMap Flat.cs)
 ok: ∀x∈xs,Flat.ok x
theorem Stk.nil_ (B:Nat)(w:World)(e:TypeId):Stk (α:=α) B w e none 0 []:=⟨World.ownsRow_nil _ _ _ _,λ_ h=>by cases h⟩
section
variable {B:Nat}{w w':World}{e:TypeId}{A:Option Addr}{c k:Nat}{xs:List α}
theorem Stk.blk (h:Stk B w e A c xs): ∀g,(Value.slice A xs.length c).ownBlock=some g->g<w.heap.size/\B<=g:=by
 intro g a;rcases h.own.2 with ⟨b,_⟩|⟨l,cap,j,d,f,i,_⟩
 ·injection b with b;subst b;cases a
 ·injection d with d;subst d;injection a with a;subst a;exact⟨(Array.getElem?_eq_some_iff.1 i).1,f⟩
theorem Stk.keep (h:Stk B w e A c xs)(b:Below w.heap.size w w'):Stk B w' e A c xs:=
 ⟨vT h.own λg a=>b.block g (h.blk g a).1,h.ok⟩
theorem Stk.inn (h:Stk B w e A c xs):In w A xs.length c xs:=by
 obtain⟨A',c',d,hs,_⟩:=jZ (S:=λk=>k<w.heap.size) (T:=λk=>k<w.heap.size) h.own (pW w _ h.ok) (λ_ b=>b) rfl (λg _ a=>a.lt);injection d with h1 _ h3;subst h1 h3;exact hs
theorem Stk.from_ (h:Stk B w e A c xs)(a:k<=xs.length):In w (if c=k then A else A.map (·.add (k*Rep.size α))) (xs.length-k) (c-k) (xs.drop k):=Sl.from_ h.inn a
theorem Stk.take (h:Stk B w e A c xs)(n:k<=xs.length):Stk B w e A c (xs.take k):=by
 refine⟨⟨oI _,?_⟩,λx p=>h.ok x (List.mem_of_mem_take p)⟩;have o:(xs.take k).length=k:=by rw[List.length_take];omega
 rw[o];rcases h.own.2 with ⟨a,q⟩|⟨g,cap,d,b,l,m,r,f,i,j⟩
 ·injection a with a _ h2';subst a h2';exact .inl ⟨by rw[show k=0 by omega],Ho⟩
 ·injection b with b _ hc;subst b hc;refine .inr ⟨g,c,d,rfl,l,m,Ho,f,i,?_⟩;rw[Gy,<-j,List.take_take]
  congr 1
  exact(Nat.min_eq_left (Nat.mul_le_mul_right _ n)).symm
theorem Stk.cap (h:Stk B w e A c xs):xs.length<=c/\c<=9223372036854775807:=h.inn.cap
theorem Stk.none_ (h:Stk B w e A c xs)(a:A=none):xs.length=0/\c=0:=by
 have:=h.inn.2.2.2.1 a;have:=h.inn.2.1;omega
theorem Stk.addr (h:Stk B w e A c xs):A=none\/ ∃g,A=some ⟨g,0,none⟩:=by
 rcases h.own.2 with ⟨a,_⟩|⟨d,cap,f,b,i,j,_⟩
 ·injection a with a;exact .inl a
 ·injection b with b;exact .inr ⟨d,b⟩
def FO (w:World)(b:Nat)(y:α):Prop:= ∀j u,(Flat.cs y)[j]?=some u->w.cell? ⟨b,j,none⟩=some u
theorem gU (w:World)(e:TypeId)(y:α)(arr:Array Value)(h:arr=(Flat.cs y).toArray):FO (w.alloc (.cells arr e)) w.heap.size y:=by
 intro j u a;subst h;rw[cell_of_row _ _ _ _ _ _ (heap_alloc_new w _)];simpa using a
theorem qI {P:Program}(w:World){C:Array Oper}{rest:List Oper}{o:Oper}{a:Act}{Q:Exit->Act->World->Prop}(I:o.guard=none)(s x:Operand)(t:TypeId)(K:o.op=.call {callee:=.builtin .append,args:= #[s,x],argTypes:= #[t,t]})(B:Nat)(e:TypeId)(i:TypeInfo)(z:Value)(bytes:Nat)(O:P.underlying t=some (.slice e))(hi:P.info? e=some i)(V:i.zero=some z)(N:i.size=Rep.size α)(G:i.bytes=bytes)(W:z.cells.size=Rep.size α)(F:bytes<=256)(A:Option Addr)(c k:Nat)(xs:List α)(L:Stk B w e A c xs)(J:k<=xs.length)(hs:a.eval s=.slice A k c)(y:α)(U:Flat.ok y)(b:Nat)(T:a.eval x=.slice (some ⟨b,0,none⟩) 1 1)(H:FO w b y)(hm:k<=1048576)(n:B<=w.heap.size)(h: ∀A' c' w',Stk B w' e A' c' (xs.take k++[y])->Below B w w'->wpList P C Q rest (a.put o.dst (.slice A' (k+1) c')) w'):wpList P C Q (o::rest) a w:=by
 have l:=L.take J;have f:(xs.take k).length=k:=by rw[List.length_take];omega
 have p:=l.blk;rw[f]at p;have M:Src w (Rep.size α) (some ⟨b,0,none⟩) 1 (Flat.cs y):=⟨by rw[Flat.cs_len];omega,λ_=>⟨b,0,rfl,λj u R=>by rw[Nat.zero_add];exact H j u R⟩⟩;refine lI (P:=P) w I s x t K B e i z (Rep.size α) bytes O hi V N G W Flat.pos (.slice A k c) k ((xs.take k).flatMap Flat.cs) hs (by have:=l.own;rw[f]at this;exact this)
  (some ⟨b,0,none⟩) 1 1 (Flat.cs y) T (by intro h;cases h) M (Flat.cs_one y) (by simp only[maxLen];omega) ?_ n ?_
 ·have:(k+1)*bytes<=1048577*256:=Nat.mul_le_mul Ho F;omega
 ·intro v' X m E Z;have hb:Below B w X:=(Below.refl B w).grown E n (λg v=>(p g v).2);rcases m.2 with ⟨_,h5⟩|⟨g,cap,Y,S,v,r⟩
  ·omega
  ·subst S;refine h _ _ _ ⟨?_,?_⟩ hb
   ·rw[List.length_append,f,List.flatMap_append];have D:[y].flatMap Flat.cs=Flat.cs y:=by simp
    rw[D];exact m
   ·intro q d;rcases List.mem_append.1 d with d|d
    ·exact l.ok q d
    ·simp at d;subst d;exact U
end
end
def Kd.cells (x:Kd):List Value:=[.int .i64 x.kind,.bool x.null]
instance:Rep Kd where
 size:=2
 rd _ _ cs x:=cs=x.cells/\jP x.kind
 len h:=by rw[h.1];rfl
 keep _ h:=h
 mono _ h:=h
instance:Flat Kd where
 cs x:=x.cells
 ok x:=jP x.kind
 rd_mk _ _ _ h:=⟨rfl,h⟩
 cs_len _:=rfl
 cs_one v u hu:=by simp[Kd.cells]at hu;rcases hu with rfl|rfl<;>rfl
 pos:=by decide
theorem In.kd {w:World}{A:Option Addr}{n c k:Nat}{xs:List Kd}(h:In w A n c xs)(d:k<n): ∃b off x,A=some ⟨b,off,none⟩/\b<w.heap.size/\Hl (xs.drop k=x::xs.drop (k+1))/\
  w.cell? ⟨b,off+k*2,none⟩=some (.int .i64 x.kind)/\w.cell? ⟨b,off+k*2+1,none⟩=some (.bool x.null)/\jP x.kind:=by
 obtain⟨b,off,x,e,hb,g,i,⟨rfl,f⟩,a⟩:=h.get d;exact⟨b,off,x,e,hb,g,a 0 (by simp[Kd.cells]),a 1 (by simp[Kd.cells]),f⟩
theorem oH (k:Int)(b:Bool)(a:Int)(w:World):Calls Tryz.prog 170 #[.agg #[.int .i64 k,.bool b],.int .i64 a] w λe w'=>e=.returned (.bool (fits ⟨k,b⟩ a))/\Below w.heap.size w w':=by
 go_enter Tryz.func170,Tryz.ntmps170;go_wp2;all_goals(go_ret;refine⟨eU ?_,eB⟩;go_light;simp_all[fits])
theorem jf (k:Int)(b:Bool)(a:Int)(w:World):Calls Tryz.prog 159 #[.agg #[.int .i64 k,.bool b],.int .i64 a] w λe w'=>e=.returned (.bool (fits ⟨k,b⟩ a))/\Below w.heap.size w w':=by
 go_enter Tryz.func159,Tryz.ntmps159;go_wp2;all_goals(go_ret;refine⟨eU ?_,eB⟩;go_light;simp_all[fits])
theorem pX (k c:Int)(b a:Bool)(w:World):Calls Tryz.prog 171 #[.agg #[.int .i64 k,.bool b],.agg #[.int .i64 c,.bool a]] w λe w'=>e=.returned (.tuple #[.int .i64 (common ⟨k,b⟩ ⟨c,a⟩).1,.bool (common ⟨k,b⟩ ⟨c,a⟩).2])/\Below w.heap.size w w':=by
 by_cases f:k=0
 ·subst f;go_enter Tryz.func171,Tryz.ntmps171;go_wp2;go_ret2;exact⟨by simp[common],below_alloc2⟩
 ·have q:(k==0)=false:=by simpa using f
  have g:Hl (common ⟨k,b⟩ ⟨c,a⟩=(k,fits ⟨c,a⟩ k)):=Hm (by simp[common,f]);clear f;go_enter Tryz.func171,Tryz.ntmps171;go_wp2;go_region_held3 (λV=>V.cell? ⟨w.heap.size,0,none⟩=some (.int .i64 k)/\V.cell? ⟨w.heap.size+1,0,none⟩=some (.int .i64 c)/\V.cell? ⟨w.heap.size+1,1,none⟩=some (.bool a)/\Below w.heap.size w V) (first|exact⟨by go_keep,by go_keep,by go_keep,below_alloc2.drew⟩|exact⟨eG d (by simp;omega) (by simp[go_sem]),eG d II (by simp[go_sem]),eG d II (by simp[go_sem]),eu below_alloc2.drew d⟩) (first|(go_at_call 170;refine(oH _ _ _ _).mono ?_;rintro e h ⟨rfl,d⟩));go_wp2;go_ret2;exact⟨by rw[g.o];rfl,eu below_alloc2.drew d⟩
theorem kI (k c:Int)(b a:Bool)(w:World):Calls Tryz.prog 158 #[.agg #[.int .i64 k,.bool b],.agg #[.int .i64 c,.bool a]] w λe w'=>e=.returned (.tuple #[.int .i64 (common ⟨k,b⟩ ⟨c,a⟩).1,.bool (common ⟨k,b⟩ ⟨c,a⟩).2])/\Below w.heap.size w w':=by
 by_cases f:k=0
 ·subst f;go_enter Tryz.func158,Tryz.ntmps158;go_wp2;go_ret2;exact⟨by simp[common],below_alloc2⟩
 ·have q:(k==0)=false:=by simpa using f
  have g:Hl (common ⟨k,b⟩ ⟨c,a⟩=(k,fits ⟨c,a⟩ k)):=Hm (by simp[common,f]);clear f;go_enter Tryz.func158,Tryz.ntmps158;go_wp2;go_region_held3 (λV=>V.cell? ⟨w.heap.size,0,none⟩=some (.int .i64 k)/\V.cell? ⟨w.heap.size+1,0,none⟩=some (.int .i64 c)/\V.cell? ⟨w.heap.size+1,1,none⟩=some (.bool a)/\Below w.heap.size w V) (first|exact⟨by go_keep,by go_keep,by go_keep,below_alloc2.drew⟩|exact⟨eG d (by simp;omega) (by simp[go_sem]),eG d II (by simp[go_sem]),eG d II (by simp[go_sem]),eu below_alloc2.drew d⟩) (first|(go_at_call 159;refine(jf _ _ _ _).mono ?_;rintro e h ⟨rfl,d⟩));go_wp2;go_ret2;exact⟨by rw[g.o];rfl,eu below_alloc2.drew d⟩
theorem Mf (k:Int)(b:Bool)(w:World):Calls Tryz.prog 169 #[.agg #[.int .i64 k,.bool b]] w λe w'=>e=.returned (.bool b)/\Below w.heap.size w w':=by
 go_enter Tryz.func169,Tryz.ntmps169;go_wp2;go_ret;exact⟨rfl,eB⟩
def rV:Nat->List Kd->Int
 | _,[]=> -1
 |k,x::l=>if x.null then k else rV (k+1) l
theorem zk: ∀(l:List Kd) (k:Nat),decide (0<=rV k l)=l.any Kd.null
 | [],_=>rfl
 |x::l,k=>by
  rw[rV,List.any_cons];cases h:x.null
  ·simpa using zk l (k+1)
  ·simp
theorem BQ (w:World)(A:Option Addr)(n c:Nat)(xs:List Kd)(d:In w A n c xs):
  Calls Tryz.prog 193 #[.slice A n c,.func (.func 169) #[] #[]] w
   λe w'=>e=.returned (.int .i64 (rV 0 xs))/\Below w.heap.size w w':=by
 have s:=d.le;go_enter Tryz.func193,Tryz.ntmps193;go_wp2;go_loopw [8] (λi wr=> ∃k:Nat,k<=n/\i=.int .i64 k/\rV 0 xs=rV k (xs.drop k)/\Below w.heap.size w wr) (λi _=>n-(intOf i).toNat)
 case atStart=>exact⟨0,Nat.zero_le _,rfl,rfl,IJ⟩
 case round=>
  obtain⟨k,u,rfl,j,hb⟩:=hrel;have a:=Hm j;clear j;by_cases q:k<n
  ·obtain⟨b,off,x,rfl,t,f,m,p,r⟩:=(d.b hb).kd q;go_wp2_with fail;refine(Mf _ _ _).mono ?_;rintro e v ⟨rfl,g⟩;have h:=eu hb g;clear g m p;cases l:x.null
   ·go_wp2;go_roundw
    case rel=>exact⟨k+1,Ho,by go_num,by rw[a.o,f.o,rV,if_neg (by simp[l])],h⟩
    case measure=>simp[intOf];omega
   ·go_wp2;go_ret;exact⟨eQ (by rw[a.o,f.o,rV,if_pos l]),h⟩
  ·go_wp2;go_ret;exact⟨eQ (by rw[a.o,fG d.len Ho,rV]),hb⟩
theorem iJ (w:World)(A:Option Addr)(n c:Nat)(xs:List Kd)(d:In w A n c xs):
  Calls Tryz.prog 168 #[.slice A n c,.func (.func 169) #[] #[]] w
   λe w'=>e=.returned (.bool (xs.any Kd.null))/\Below w.heap.size w w':=by
 have a:=Hm (zk xs 0);go_enter Tryz.func168,Tryz.ntmps168;go_wp2_with fail;refine(BQ _ _ _ _ xs d).mono ?_;rintro e f ⟨rfl,b⟩;go_wp2;go_ret;exact⟨eU a.o,b⟩
theorem Jw (x n:Int)(d:1<=n):(x.tmod n+n).tmod n=x % n/\ -n<x.tmod n/\x.tmod n<n:=by
 have a:x.tmod n<n:=Int.tmod_lt_of_pos x Ho;have b: -n<x.tmod n:=by
  have h:=Int.tmod_lt_of_pos (-x) (show 0<n by omega);rw[Int.neg_tmod]at h;omega
 refine⟨?_,b,a⟩;rw[Int.tmod_eq_emod_of_nonneg Ho,Int.add_emod_right];have c:=Int.mul_tdiv_add_tmod x n
 calc x.tmod n % n=(x.tmod n+n*x.tdiv n) % n:=by rw[Int.add_mul_emod_self_left]
  _=x % n:=by rw[show x.tmod n+n*x.tdiv n=x by omega]
theorem nZ (x n:Int)(a:1<=n)(h:n<=1099511627776)(w:World):Calls Tryz.prog 23 #[.int .i64 x,.int .i64 n] w λe w'=>e=.returned (.int .i64 (x % n))/\w'=w:=by
 obtain⟨b,c,d⟩:=Jw x n a;have j:IntKind.i64.wrap (x.tmod n+n)=x.tmod n+n:=IntWalk.i64_in _ Ho;have k:IntKind.i64.wrap (x.tmod n)=x.tmod n:=IntWalk.i64_in _ Ho;have f:0<=x % n:=Int.emod_nonneg _ Ho;have g:x % n<n:=Int.emod_lt_of_pos _ Ho;have l:IntKind.i64.wrap (x % n)=x % n:=IntWalk.i64_in _ Ho;have i:¬n=0:=by omega
 go_enter Tryz.func23,Tryz.ntmps23;go_wp2;all_goals(try(exfalso;go_light;simp_all;done));go_ret;exact⟨rfl,rfl⟩
instance (n:Int):Decidable (jP n):=inferInstanceAs (Decidable (_/\_))
theorem uU {cols:List Col}{row:List Val}(h:fB cols row=0):row.length=cols.length:=by
 by_cases a:row.length=cols.length
 ·exact a
 ·rw[fB,if_pos a]at h;omega
end Go.Proofs.YthnelebakkggjaaGreatDoor
