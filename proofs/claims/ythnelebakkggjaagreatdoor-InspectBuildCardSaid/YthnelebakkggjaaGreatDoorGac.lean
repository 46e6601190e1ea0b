/-
  Small lemmas for walks: equations of endings, worlds below a block, cells of new blocks, elements of a slice. No program is in sight. Bundles: the cells of a block at one world, told at every later one. No program is in sight. (Printed by gen_all.py.) A region that draws its order, by an invariant over what has come up: each operation is met once, whatever came up ahead of it. No program is in sight.
-/
import Derived.WalkLawsBesides
import Derived.WalkSpells
import Derived.BigQuiet
import Derived.Deep.Light
import Derived.Deep.RegionHeld3
import Derived.Test.YthnelebakkggjaaGreatDoorGaa
namespace Go.Proofs.YthnelebakkggjaaGreatDoor
set_option linter.unusedVariables false
set_option linter.unusedSimpArgs false
open Go.RowKit
theorem eU {a b:Bool}(h:a=b):Ending.returned (.bool a)=.returned (.bool b):=by rw[h]
theorem eQ {k:IntKind}{a b:Int}(h:a=b):Ending.returned (.int k a)=.returned (.int k b):=by rw[h]
theorem eB {w:World}{o:Obj}:Below w.heap.size w (w.alloc o):=(Below.refl _ _).alloc (Nat.le_refl _) _
theorem below_drewN {B:Nat}{a w:World}(h:Below B a w)(n:Nat):Below B a (w.drewN n):=⟨h.os,h.tape,h.output,h.size,h.block⟩
theorem eu {w a b:World}(h:Below w.heap.size w a)(c:Below a.heap.size a b):Below w.heap.size w b:=h.trans (c.mono h.size)
theorem below_alloc2 {w:World}{o a:Obj}:Below w.heap.size w ((w.alloc o).alloc a):=eu eB eB
theorem eO {W a:World}(hb:Below W.heap.size W a):(∀b o,b<W.heap.size->a.cell? ⟨b,o,none⟩=W.cell? ⟨b,o,none⟩)/\(∀b o,b<W.heap.size->a.frozen? ⟨b,o,none⟩=W.frozen? ⟨b,o,none⟩):=
 ⟨λb o h=>hb.cell (p:=⟨b,o,none⟩) h,λb o h=>hb.frozen (p:=⟨b,o,none⟩) h⟩
theorem eF {w a:World}(h:Below w.drew.heap.size w.drew a):Below w.heap.size w a:=⟨h.os,h.tape,h.output,h.size,h.block⟩
theorem eG {W a:World}(hb:Below W.heap.size W a){b o:Nat}{v:Value}(h:b<W.heap.size)(e:W.cell? ⟨b,o,none⟩=some v):a.cell? ⟨b,o,none⟩=some v:=((eO hb).1 b o h).trans e
def vW:Value->Nat
 | .slice _ n _=>n
 | _=>0
def Hl (p:Prop):Prop:=p
theorem Hl.o {p:Prop}(h:Hl p):p:=h
theorem Hm {p:Prop}(h:p):Hl p:=h
theorem Ho {p:Prop}(h:p:=by omega):p:=h
theorem II {p:Prop}(h:p:=by simp):p:=h
theorem IJ {n:Nat}{w:World}:Below n w w:=Below.refl _ _
theorem IK {n:Nat}:n<=n:=Nat.le_refl _
def In {α:Type}[Rep α](w:World)(A:Option Addr)(n c:Nat)(xs:List α):Prop:=Sl w (λk=>k<w.heap.size) A n c xs
section
variable {α:Type}[Rep α]{w w':World}{A:Option Addr}{n c:Nat}{xs:List α}
theorem In.b (h:In w A n c xs)(hb:Below w.heap.size w w'):In w' A n c xs:=(Sl.keep (Same.b hb) h).mono λ_ a=>Nat.lt_of_lt_of_le a hb.size
theorem In.of_sl {S:Nat->Prop}(h:Sl w S A n c xs)(a: ∀k,S k->k<w.heap.size):In w A n c xs:=Sl.mono a h
theorem In.len (h:In w A n c xs):xs.length=n:=h.1
theorem In.le (h:In w A n c xs):n<=9223372036854775807:=by have:=h.2.1;have:=h.2.2.1;omega
theorem In.cap (h:In w A n c xs):n<=c/\c<=9223372036854775807:=⟨h.2.1,h.2.2.1⟩
theorem In.get (h:In w A n c xs){k:Nat}(d:k<n):
  ∃b off x,A=some ⟨b,off,none⟩/\b<w.heap.size/\Hl (xs.drop k=x::xs.drop (k+1))/\At w (λk=>k<w.heap.size) b (off+k*Rep.size α) x:=by
 obtain⟨b,off,e,hb,hi⟩:=h.2.2.2.2 Ho;have a:k<xs.length:=by rw[h.1];exact d
 exact⟨b,off,xs[k],e,hb,List.drop_eq_getElem_cons a,hi k a⟩
theorem In.nil_:In (α:=α) w none 0 0 []:=Sl.nil_
end
theorem fG {α:Type}{xs:List α}{n k:Nat}(h:xs.length=n)(a:n<=k):xs.drop k=[]:=List.drop_eq_nil_of_le Ho
theorem iI {α:Type}{xs:List α}{k:Nat}{x:α}{l:List α}(h:xs.drop k=x::l):xs[k]?=some x/\k<xs.length:=by
 have b:k<xs.length:=by
  rcases Nat.lt_or_ge k xs.length with a|a
  ·exact a
  ·rw[List.drop_eq_nil_of_le a]at h;cases h
 rw[List.drop_eq_getElem_cons b]at h;injection h with h1 h2;exact⟨by rw[List.getElem?_eq_getElem b,h1],b⟩
section
variable {w:World}{A:Option Addr}{n c k:Nat}
theorem In.int {xs:List Int}(h:In w A n c xs)(f:k<n): ∃b off x,A=some ⟨b,off,none⟩/\b<w.heap.size/\Hl (xs.drop k=x::xs.drop (k+1))/\
  w.cell? ⟨b,off+k,none⟩=some (.int .i64 x)/\jP x:=by
 obtain⟨b,off,x,e,hb,i,j,⟨rfl,g⟩,d⟩:=h.get f;have a:=d 0 II;exact⟨b,off,x,e,hb,i,by simpa[Rep.size] using a,g⟩
theorem In.str {xs:List ByteArray}(h:In w A n c xs)(f:k<n): ∃b off x,A=some ⟨b,off,none⟩/\b<w.heap.size/\Hl (xs.drop k=x::xs.drop (k+1))/\
  w.cell? ⟨b,off+k,none⟩=some (.string x)/\Str x:=by
 obtain⟨b,off,x,e,hb,i,j,⟨rfl,g⟩,d⟩:=h.get f;have a:=d 0 II;exact⟨b,off,x,e,hb,i,by simpa[Rep.size] using a,g⟩
theorem In.val {xs:List Val}(h:In w A n c xs)(d:k<n): ∃b off x,A=some ⟨b,off,none⟩/\b<w.heap.size/\Hl (xs.drop k=x::xs.drop (k+1))/\
  w.cell? ⟨b,off+k*3,none⟩=some (.int .i64 x.kind)/\w.cell? ⟨b,off+k*3+1,none⟩=some (.int .i64 x.num)/\w.cell? ⟨b,off+k*3+2,none⟩=some (.string x.str)/\x.ok:=by
 obtain⟨b,off,x,e,hb,g,i,⟨rfl,f⟩,a⟩:=h.get d;exact⟨b,off,x,e,hb,g,a 0 (by simp[Val.cells]),a 1 (by simp[Val.cells]),a 2 (by simp[Val.cells]),f⟩
theorem In.col {xs:List Col}(h:In w A n c xs)(d:k<n): ∃b off x,A=some ⟨b,off,none⟩/\b<w.heap.size/\Hl (xs.drop k=x::xs.drop (k+1))/\
  w.cell? ⟨b,off+k*3,none⟩=some (.string x.name)/\w.cell? ⟨b,off+k*3+1,none⟩=some (.int .i64 x.kind)/\w.cell? ⟨b,off+k*3+2,none⟩=some (.bool x.nullable)/\x.ok:=by
 obtain⟨b,off,x,e,hb,g,i,⟨rfl,f⟩,a⟩:=h.get d;exact⟨b,off,x,e,hb,g,a 0 (by simp[Col.cells]),a 1 (by simp[Col.cells]),a 2 (by simp[Col.cells]),f⟩
theorem In.ent {xs:List Ent}(h:In w A n c xs)(d:k<n): ∃b off x,A=some ⟨b,off,none⟩/\b<w.heap.size/\Hl (xs.drop k=x::xs.drop (k+1))/\
  ∃A' n' c',w.cell? ⟨b,off+k*2,none⟩=some (.slice A' n' c')/\w.cell? ⟨b,off+k*2+1,none⟩=some (.int .i64 x.count)/\In w A' n' c' x.row/\jP x.count:=by
 obtain⟨b,off,x,e,hb,g,i,⟨A',n',c',rfl,hs,f⟩,a⟩:=h.get d;exact⟨b,off,x,e,hb,g,A',n',c',a 0 II,a 1 II,hs,f⟩
end
section
variable {P:Program}
theorem fQ {fn:Func}{p:Tmp}{ty:TypeId}(h:fn.results= #[.cell p ty])(c:Array Value)(w:World)(g:Nat)(cs:List Value)(d:TypeDesc)(m:c.getD p undef=.pointer (some ⟨g,0,none⟩))(k: ∀j v,cs[j]?=some v->w.cell? ⟨g,j,none⟩=some v)(o:P.underlying ty=some d)(hd:(match d with| .struct _| .array _ _=>true| _=>false)=true)(hi:(P.info? ty).map (·.size)=some cs.length):
  (results fn c).run P w=.ok (.agg cs.toArray) w:=by
 have l:(loadCells ⟨g,0,none⟩ cs.length).run P w=.ok cs.toArray w:=
  run_loadCells_list (P:=P) w ⟨g,0,none⟩ cs (λj v b=>by
   have e:(⟨g,0,none⟩:Addr).add j=⟨g,j,none⟩:=by unfold Addr.add;split<;>simp_all
   rw[e];exact k j v b)
 have b:(loadVar ty ⟨g,0,none⟩).run P w=.ok (.agg cs.toArray) w:=by
  cases a:P.info? ty with
  |none=>simp[a]at hi
  |some i=>
   have hs:i.size=cs.length:=by simpa[a] using hi
   have f:(isAgg ty).run P w=.ok true w:=by
    unfold isAgg;rw[Sem.run_bind,run_underlying o w];cases d<;>simp_all
   simp[loadVar,Sem.run_bind,f,sizeOf,typeInfo,a,hs,l]
 have n:c[p]?.getD undef=.pointer (some ⟨g,0,none⟩):=by simpa using m
 simp[results,h,n,asAddr,b]
end
theorem iY {w:World}{b o:Nat}{u v:Value}(h:w.cell? ⟨b,o,none⟩=some u):(w.setCell ⟨b,o,none⟩ v).cell? ⟨b,o,none⟩=some v:=World.cell?_setCell_same w _ v h
theorem eD {w:World}{b o b' o':Nat}{u v:Value}(h:w.cell? ⟨b,o,none⟩=some u)(a:b≠b'\/o≠o'):(w.setCell ⟨b',o',none⟩ v).cell? ⟨b,o,none⟩=some u:=
 (World.cell?_setCell_other w ⟨b',o',none⟩ ⟨b,o,none⟩ v (by intro e;injection e with e1 e2;omega)).trans h
theorem fM {w:World}{g:Nat}{e f h v0 v1 v2:Value}(b:w.cell? ⟨g,0,none⟩=some e)(c:w.cell? ⟨g,1,none⟩=some f)(d:w.cell? ⟨g,2,none⟩=some h):
  ∀j v,[v0,v1,v2][j]?=some v->(((w.setCell ⟨g,0,none⟩ v0).setCell ⟨g,1,none⟩ v1).setCell ⟨g,2,none⟩ v2).cell? ⟨g,j,none⟩=some v:=by
 intro j v a
 match j,a with
 | 0,a=>simp at a;subst a;exact eD (eD (iY b) (.inr Ho)) (.inr Ho)
 | 1,a=>simp at a;subst a;exact eD (iY (eD c (.inr Ho))) (.inr Ho)
 | 2,a=>simp at a;subst a;exact iY (eD (eD d (.inr Ho)) (.inr Ho))
def jQ (w:World)(t:TypeId)(g:Nat):Prop:= ∃a,w.heap[g]?=some (.cells a t (0,0))
def New (w w':World)(t:TypeId)(g:Nat):Prop:=w.heap.size<=g/\jQ w' t g
def gW (w:World)(g:Nat)(t:TypeId)(m:Nat):Prop:= ∃a,w.heap[g]?=some (.cells a t (0,0))/\a.size=m
theorem jQ.lt {w:World}{t g:Nat}(h:jQ w t g):g<w.heap.size:=by
 obtain⟨c,h⟩:=h;exact(Array.getElem?_eq_some_iff.1 h).1
theorem jQ.ne {w:World}{t d g b:Nat}(h:jQ w t g)(a:jQ w d b)(f:t≠d):g≠b:=by
 rintro rfl;obtain⟨c,h⟩:=h;obtain⟨c',a⟩:=a;rw[h]at a;injection a with a;injection a with _ e;exact f e
theorem jQ.b {w w':World}{t g:Nat}(h:jQ w t g)(hb:Below w.heap.size w w'):jQ w' t g:=by
 obtain⟨c,a⟩:=h;exact⟨c,(hb.block g (jQ.lt ⟨c,a⟩)).trans a⟩
theorem gW.ty {w:World}{g t m:Nat}(h:gW w g t m):jQ w t g:=by obtain⟨c,h,_⟩:=h;exact⟨c,h⟩
theorem gW.lt {w:World}{g t m:Nat}(h:gW w g t m):g<w.heap.size:=h.ty.lt
theorem gW.b {w w':World}{g t m:Nat}(h:gW w g t m)(hb:Below w.heap.size w w'):gW w' g t m:=by
 have d:=h.lt;obtain⟨c,a,e⟩:=h;exact⟨c,(hb.block g d).trans a,e⟩
theorem gW.cell {w:World}{g t m o:Nat}(h:gW w g t m)(d:o<m): ∃u,w.cell? ⟨g,o,none⟩=some u:=by
 obtain⟨c,a,b⟩:=h;exact⟨c[o],by rw[cell_of_row w g o c t (0,0) a,Array.getElem?_eq_getElem Ho]⟩
theorem gW.frozen {w:World}{g t m:Nat}(h:gW w g t m)(o:Nat):w.frozen? ⟨g,o,none⟩=false:=by
 obtain⟨c,a,b⟩:=h;exact frozen_of_row w g o c t a
theorem jQ.set {w:World}{g t:Nat}(h:jQ w t g)(b o:Nat)(v:Value):jQ (w.setCell ⟨b,o,none⟩ v) t g:=by
 obtain⟨c,a⟩:=h;by_cases d:g=b
 ·subst d;exact⟨c.setIfInBounds o v,by simp[World.setCell,Array.getElem?_modify,a]⟩
 ·exact⟨c,by simp[World.setCell,Array.getElem?_modify,a,show ¬b=g from λe=>d e.symm]⟩
theorem gW.set {w:World}{g t m:Nat}(h:gW w g t m)(b o:Nat)(v:Value):gW (w.setCell ⟨b,o,none⟩ v) g t m:=by
 obtain⟨c,a,f⟩:=h;by_cases d:g=b
 ·subst d;exact⟨c.setIfInBounds o v,by simp[World.setCell,Array.getElem?_modify,a],by simp[f]⟩
 ·exact⟨c,by simp[World.setCell,Array.getElem?_modify,a,show ¬b=g from λe=>d e.symm],f⟩
theorem gW.made (w:World)(a:Array Value)(t m:Nat)(b:a.size=m):gW (w.alloc (.cells a t)) w.heap.size t m:=⟨a,heap_alloc_new w _,b⟩
theorem uO {P:Program}(t e:TypeId)(i:TypeInfo)(z:Value)(d:P.underlying t=some (.slice e))(hi:P.info? e=some i)(f:i.zero=some z)(b kc:IntKind)(n c:Nat)(k:n<=c)(j:i.bytes*c<=281474976710656)(g:c<=9223372036854775807)(w:World):
  (Instr.makeSlice t (.int b (n:Int)) (.int kc (c:Int))).run P w=.ok (.slice (some ⟨w.heap.size,0,none⟩) n c) (w.alloc (.cells (madeCells z.cells (c*i.size)) e)):=by
 have hb:(i.bytes:Int)*(c:Int)<=281474976710656:=by
  have h:((i.bytes*c:Nat):Int)<=281474976710656:=by omega
  rwa [Int.natCast_mul]at h
 have a:=run_make (P:=P) w t e i z d hi f b kc n c Ho Ho hb Ho;simp only[Int.toNat_natCast]at a;exact a
theorem oQ {w W:World}{b:Nat}{t:TypeId}{a:Value}(h:W=w.alloc (.cells #[a] t))(hb:w.heap.size=b):
  Below w.heap.size w W/\Hl (W.heap.size=w.heap.size+1)/\W.cell? ⟨b,0,none⟩=some a:=by
 subst hb;subst h;exact⟨eB,Hm (World.size_alloc _ _),by simp[go_sem]⟩
theorem wG {w W:World}{b:Nat}{t:TypeId}{a c:Value}(h:W=w.alloc (.cells #[a,c] t))(hb:w.heap.size=b):
  Below w.heap.size w W/\Hl (W.heap.size=w.heap.size+1)/\W.cell? ⟨b,0,none⟩=some a/\W.cell? ⟨b,1,none⟩=some c:=by
 subst hb;subst h;exact⟨eB,Hm (World.size_alloc _ _),by simp[go_sem],by simp[go_sem]⟩
theorem mQ {w W:World}{b:Nat}{t:TypeId}{a c d:Value}(h:W=w.alloc (.cells #[a,c,d] t))(hb:w.heap.size=b):
  Below w.heap.size w W/\Hl (W.heap.size=w.heap.size+1)/\W.cell? ⟨b,0,none⟩=some a/\W.cell? ⟨b,1,none⟩=some c/\W.cell? ⟨b,2,none⟩=some d:=by
 subst hb;subst h;exact⟨eB,Hm (World.size_alloc _ _),by simp[go_sem],by simp[go_sem],by simp[go_sem]⟩
theorem lM {w W:World}{b:Nat}{t:TypeId}{a c d e:Value}(h:W=w.alloc (.cells #[a,c,d,e] t))(hb:w.heap.size=b):
  Below w.heap.size w W/\Hl (W.heap.size=w.heap.size+1)/\W.cell? ⟨b,0,none⟩=some a/\W.cell? ⟨b,1,none⟩=some c/\W.cell? ⟨b,2,none⟩=some d/\W.cell? ⟨b,3,none⟩=some e:=by
 subst hb;subst h;exact⟨eB,Hm (World.size_alloc _ _),by simp[go_sem],by simp[go_sem],by simp[go_sem],by simp[go_sem]⟩
theorem gZ {w W:World}{b:Nat}{t:TypeId}{a c i j k l m n o p d e f g:Value}(h:W=w.alloc (.cells #[a,c,i,j,k,l,m,n,o,p,d,e,f,g] t))(hb:w.heap.size=b):
  Below w.heap.size w W/\Hl (W.heap.size=w.heap.size+1)/\W.cell? ⟨b,0,none⟩=some a/\W.cell? ⟨b,1,none⟩=some c/\W.cell? ⟨b,2,none⟩=some i/\W.cell? ⟨b,3,none⟩=some j/\W.cell? ⟨b,4,none⟩=some k/\W.cell? ⟨b,5,none⟩=some l/\W.cell? ⟨b,6,none⟩=some m/\W.cell? ⟨b,7,none⟩=some n/\W.cell? ⟨b,8,none⟩=some o/\W.cell? ⟨b,9,none⟩=some p/\W.cell? ⟨b,10,none⟩=some d/\W.cell? ⟨b,11,none⟩=some e/\W.cell? ⟨b,12,none⟩=some f/\W.cell? ⟨b,13,none⟩=some g:=by
 subst hb;subst h;exact⟨eB,Hm (World.size_alloc _ _),by simp[go_sem],by simp[go_sem],by simp[go_sem],by simp[go_sem],by simp[go_sem],by simp[go_sem],by simp[go_sem],by simp[go_sem],by simp[go_sem],by simp[go_sem],by simp[go_sem],by simp[go_sem],by simp[go_sem],by simp[go_sem]⟩
theorem Ng {W a:World}(hb:Below W.heap.size W a){b c d:Nat}{e f:Value}(h:b<W.heap.size)(g:W.cell? ⟨b,c,none⟩=some e)(i:W.cell? ⟨b,d,none⟩=some f):
  a.cell? ⟨b,c,none⟩=some e/\a.cell? ⟨b,d,none⟩=some f/\b<a.heap.size:=
 ⟨eG hb h g,eG hb h i,Nat.lt_of_lt_of_le h hb.size⟩
theorem kJ {W a:World}(hb:Below W.heap.size W a){b c d e:Nat}{f g i:Value}(h:b<W.heap.size)(j:W.cell? ⟨b,c,none⟩=some f)(k:W.cell? ⟨b,d,none⟩=some g)(l:W.cell? ⟨b,e,none⟩=some i):
  a.cell? ⟨b,c,none⟩=some f/\a.cell? ⟨b,d,none⟩=some g/\a.cell? ⟨b,e,none⟩=some i/\b<a.heap.size:=
 ⟨eG hb h j,eG hb h k,eG hb h l,Nat.lt_of_lt_of_le h hb.size⟩
theorem iD {W a:World}(hb:Below W.heap.size W a){b c d e f:Nat}{g i j k:Value}(h:b<W.heap.size)(l:W.cell? ⟨b,c,none⟩=some g)(m:W.cell? ⟨b,d,none⟩=some i)(n:W.cell? ⟨b,e,none⟩=some j)(o:W.cell? ⟨b,f,none⟩=some k):
  a.cell? ⟨b,c,none⟩=some g/\a.cell? ⟨b,d,none⟩=some i/\a.cell? ⟨b,e,none⟩=some j/\a.cell? ⟨b,f,none⟩=some k/\b<a.heap.size:=
 ⟨eG hb h l,eG hb h m,eG hb h n,eG hb h o,Nat.lt_of_lt_of_le h hb.size⟩
theorem gB {W a:World}(hb:Below W.heap.size W a){b c d j k l m n o p q e f g i:Nat}{r s x y z A B C D E t u v w:Value}(h:b<W.heap.size)(F:W.cell? ⟨b,c,none⟩=some r)(G:W.cell? ⟨b,d,none⟩=some s)(L:W.cell? ⟨b,j,none⟩=some x)(M:W.cell? ⟨b,k,none⟩=some y)(N:W.cell? ⟨b,l,none⟩=some z)(O:W.cell? ⟨b,m,none⟩=some A)(P:W.cell? ⟨b,n,none⟩=some B)(Q:W.cell? ⟨b,o,none⟩=some C)(R:W.cell? ⟨b,p,none⟩=some D)(S:W.cell? ⟨b,q,none⟩=some E)(H:W.cell? ⟨b,e,none⟩=some t)(I:W.cell? ⟨b,f,none⟩=some u)(J:W.cell? ⟨b,g,none⟩=some v)(K:W.cell? ⟨b,i,none⟩=some w):
  a.cell? ⟨b,c,none⟩=some r/\a.cell? ⟨b,d,none⟩=some s/\a.cell? ⟨b,j,none⟩=some x/\a.cell? ⟨b,k,none⟩=some y/\a.cell? ⟨b,l,none⟩=some z/\a.cell? ⟨b,m,none⟩=some A/\a.cell? ⟨b,n,none⟩=some B/\a.cell? ⟨b,o,none⟩=some C/\a.cell? ⟨b,p,none⟩=some D/\a.cell? ⟨b,q,none⟩=some E/\a.cell? ⟨b,e,none⟩=some t/\a.cell? ⟨b,f,none⟩=some u/\a.cell? ⟨b,g,none⟩=some v/\a.cell? ⟨b,i,none⟩=some w/\b<a.heap.size:=
 ⟨eG hb h F,eG hb h G,eG hb h L,eG hb h M,eG hb h N,eG hb h O,eG hb h P,eG hb h Q,eG hb h R,eG hb h S,eG hb h H,eG hb h I,eG hb h J,eG hb h K,Nat.lt_of_lt_of_le h hb.size⟩
section
variable {W:World}{b:Nat}
theorem nK {P Q:World->Prop}(h:Hl (∀V,Below W.heap.size W V->P V))(g:Hl (∀V,Below W.heap.size W V->Q V)):Hl (∀V,Below W.heap.size W V->P V/\Q V):=λV a=>⟨h.o V a,g.o V a⟩
theorem all1 {c:Nat}{d:Value}(a:W.cell? ⟨b,c,none⟩=some d):Hl (∀V,Below W.heap.size W V->V.cell? ⟨b,c,none⟩=some d):=λV h=>eG h (lt_of_cell a) a
theorem all2 {d e:Nat}{f g:Value}(a:W.cell? ⟨b,d,none⟩=some f)(c:W.cell? ⟨b,e,none⟩=some g):Hl (∀V,Below W.heap.size W V->V.cell? ⟨b,d,none⟩=some f/\V.cell? ⟨b,e,none⟩=some g):=λV h=>⟨eG h (lt_of_cell a) a,eG h (lt_of_cell c) c⟩
theorem ND {e f g:Nat}{i j k:Value}(a:W.cell? ⟨b,e,none⟩=some i)(c:W.cell? ⟨b,f,none⟩=some j)(d:W.cell? ⟨b,g,none⟩=some k):Hl (∀V,Below W.heap.size W V->V.cell? ⟨b,e,none⟩=some i/\V.cell? ⟨b,f,none⟩=some j/\V.cell? ⟨b,g,none⟩=some k):=λV h=>⟨eG h (lt_of_cell a) a,eG h (lt_of_cell c) c,eG h (lt_of_cell d) d⟩
theorem NE {f g i j:Nat}{k l m n:Value}(a:W.cell? ⟨b,f,none⟩=some k)(c:W.cell? ⟨b,g,none⟩=some l)(d:W.cell? ⟨b,i,none⟩=some m)(e:W.cell? ⟨b,j,none⟩=some n):Hl (∀V,Below W.heap.size W V->V.cell? ⟨b,f,none⟩=some k/\V.cell? ⟨b,g,none⟩=some l/\V.cell? ⟨b,i,none⟩=some m/\V.cell? ⟨b,j,none⟩=some n):=λV h=>⟨eG h (lt_of_cell a) a,eG h (lt_of_cell c) c,eG h (lt_of_cell d) d,eG h (lt_of_cell e) e⟩
theorem M3 {q r w x y z A B C D s t u v:Nat}{E F K L M N O P Q R G H I J:Value}(a:W.cell? ⟨b,q,none⟩=some E)(c:W.cell? ⟨b,r,none⟩=some F)(i:W.cell? ⟨b,w,none⟩=some K)(j:W.cell? ⟨b,x,none⟩=some L)(k:W.cell? ⟨b,y,none⟩=some M)(l:W.cell? ⟨b,z,none⟩=some N)(m:W.cell? ⟨b,A,none⟩=some O)(n:W.cell? ⟨b,B,none⟩=some P)(o:W.cell? ⟨b,C,none⟩=some Q)(p:W.cell? ⟨b,D,none⟩=some R)(d:W.cell? ⟨b,s,none⟩=some G)(e:W.cell? ⟨b,t,none⟩=some H)(f:W.cell? ⟨b,u,none⟩=some I)(g:W.cell? ⟨b,v,none⟩=some J):Hl (∀V,Below W.heap.size W V->V.cell? ⟨b,q,none⟩=some E/\V.cell? ⟨b,r,none⟩=some F/\V.cell? ⟨b,w,none⟩=some K/\V.cell? ⟨b,x,none⟩=some L/\V.cell? ⟨b,y,none⟩=some M/\V.cell? ⟨b,z,none⟩=some N/\V.cell? ⟨b,A,none⟩=some O/\V.cell? ⟨b,B,none⟩=some P/\V.cell? ⟨b,C,none⟩=some Q/\V.cell? ⟨b,D,none⟩=some R/\V.cell? ⟨b,s,none⟩=some G/\V.cell? ⟨b,t,none⟩=some H/\V.cell? ⟨b,u,none⟩=some I/\V.cell? ⟨b,v,none⟩=some J):=λV h=>⟨eG h (lt_of_cell a) a,eG h (lt_of_cell c) c,eG h (lt_of_cell i) i,eG h (lt_of_cell j) j,eG h (lt_of_cell k) k,eG h (lt_of_cell l) l,eG h (lt_of_cell m) m,eG h (lt_of_cell n) n,eG h (lt_of_cell o) o,eG h (lt_of_cell p) p,eG h (lt_of_cell d) d,eG h (lt_of_cell e) e,eG h (lt_of_cell f) f,eG h (lt_of_cell g) g⟩
theorem zQ {c:Nat}{d:Value}(a:W.cell? ⟨b,c,none⟩=some d):Hl (∀V,Below W.heap.size W V->b<V.heap.size/\V.cell? ⟨b,c,none⟩=some d):=λV h=>⟨Nat.lt_of_lt_of_le (lt_of_cell a) h.size,(all1 a).o V h⟩
theorem JX {c d:Nat}{e f:Value}(a:W.cell? ⟨b,c,none⟩=some e)(g:W.cell? ⟨b,d,none⟩=some f):Hl (∀V,Below W.heap.size W V->b<V.heap.size/\V.cell? ⟨b,c,none⟩=some e/\V.cell? ⟨b,d,none⟩=some f):=λV h=>⟨Nat.lt_of_lt_of_le (lt_of_cell a) h.size,(all2 a g).o V h⟩
theorem qL {c d e:Nat}{f g i:Value}(a:W.cell? ⟨b,c,none⟩=some f)(j:W.cell? ⟨b,d,none⟩=some g)(k:W.cell? ⟨b,e,none⟩=some i):Hl (∀V,Below W.heap.size W V->b<V.heap.size/\V.cell? ⟨b,c,none⟩=some f/\V.cell? ⟨b,d,none⟩=some g/\V.cell? ⟨b,e,none⟩=some i):=λV h=>⟨Nat.lt_of_lt_of_le (lt_of_cell a) h.size,(ND a j k).o V h⟩
theorem mr {c d e f:Nat}{g i j k:Value}(a:W.cell? ⟨b,c,none⟩=some g)(l:W.cell? ⟨b,d,none⟩=some i)(m:W.cell? ⟨b,e,none⟩=some j)(n:W.cell? ⟨b,f,none⟩=some k):Hl (∀V,Below W.heap.size W V->b<V.heap.size/\V.cell? ⟨b,c,none⟩=some g/\V.cell? ⟨b,d,none⟩=some i/\V.cell? ⟨b,e,none⟩=some j/\V.cell? ⟨b,f,none⟩=some k):=λV h=>⟨Nat.lt_of_lt_of_le (lt_of_cell a) h.size,(NE a l m n).o V h⟩
theorem lN {c d j k l m n p q r e f g i:Nat}{s t y z A B C D E F u v w x:Value}(a:W.cell? ⟨b,c,none⟩=some s)(G:W.cell? ⟨b,d,none⟩=some t)(L:W.cell? ⟨b,j,none⟩=some y)(M:W.cell? ⟨b,k,none⟩=some z)(N:W.cell? ⟨b,l,none⟩=some A)(O:W.cell? ⟨b,m,none⟩=some B)(P:W.cell? ⟨b,n,none⟩=some C)(Q:W.cell? ⟨b,p,none⟩=some D)(R:W.cell? ⟨b,q,none⟩=some E)(S:W.cell? ⟨b,r,none⟩=some F)(H:W.cell? ⟨b,e,none⟩=some u)(I:W.cell? ⟨b,f,none⟩=some v)(J:W.cell? ⟨b,g,none⟩=some w)(K:W.cell? ⟨b,i,none⟩=some x):Hl (∀V,Below W.heap.size W V->b<V.heap.size/\V.cell? ⟨b,c,none⟩=some s/\V.cell? ⟨b,d,none⟩=some t/\V.cell? ⟨b,j,none⟩=some y/\V.cell? ⟨b,k,none⟩=some z/\V.cell? ⟨b,l,none⟩=some A/\V.cell? ⟨b,m,none⟩=some B/\V.cell? ⟨b,n,none⟩=some C/\V.cell? ⟨b,p,none⟩=some D/\V.cell? ⟨b,q,none⟩=some E/\V.cell? ⟨b,r,none⟩=some F/\V.cell? ⟨b,e,none⟩=some u/\V.cell? ⟨b,f,none⟩=some v/\V.cell? ⟨b,g,none⟩=some w/\V.cell? ⟨b,i,none⟩=some x):=λV h=>⟨Nat.lt_of_lt_of_le (lt_of_cell a) h.size,(M3 a G L M N O P Q R S H I J K).o V h⟩
end
theorem F4 {p q:Nat->Bool}: ∀(l:List Nat),(∀x∈l,q x=true->p x=true)->(∃i∈l,p i=true/\q i=false)->(l.filter q).length<(l.filter p).length
 | [],_,h=>by obtain⟨i,hi,_⟩:=h;cases hi
 |x::l,h1,h2=>by
  have e: ∀y∈l,q y=true->p y=true:=λy n=>h1 y (by simp[n]);have k: ∀m:List Nat,(∀y∈m,q y=true->p y=true)->(m.filter q).length<=(m.filter p).length:=λm=>by
   induction m with
   |nil=>simp
   |cons y m r=>
    intro h;have a:=r λz o=>h z (by simp[o]);have b:=h y II;rw[List.filter_cons,List.filter_cons];cases c:q y
    ·cases f:p y<;>simp<;>omega
    ·rw[b c];simp;omega
  have s:=k l e;by_cases d:p x=true/\q x=false
  ·rw[List.filter_cons,List.filter_cons,d.1,d.2];simp;omega
  ·have t:=F4 l e (by
    obtain⟨i,hi,g,j⟩:=h2;rcases List.mem_cons.1 hi with rfl|hi
    ·exact absurd ⟨g,j⟩ d
    ·exact⟨i,hi,g,j⟩)
   have b:=h1 x II;rw[List.filter_cons,List.filter_cons];cases c:q x
   ·cases f:p x
    ·simp;omega
    ·exact absurd ⟨f,c⟩ d
   ·rw[b c];simp;omega
section
variable {P:Program}{ops:Array Oper}{Q:Exit->Act->World->Prop}
def left (ops:Array Oper)(l:Array Bool):Nat:=((List.range ops.size).filter λj=>!l.getD j true).length
theorem Dl {l:Array Bool}{i:Nat}(hi:i<ops.size)(h:l.getD i true=false):left ops (l.setIfInBounds i true)<left ops l:=by
 have b:i<l.size:=by
  rcases Nat.lt_or_ge i l.size with a|a
  ·exact a
  ·rw[Array.getD_eq_getD_getElem?,Array.getElem?_eq_none a]at h;cases h
 refine F4 _ (λx _ c=>?_) ⟨i,List.mem_range.2 hi,by simp[h],?_⟩
 ·by_cases e:i=x
  ·subst e;simp[h]
  ·simpa[Array.getD_eq_getD_getElem?,Array.getElem?_setIfInBounds_ne e] using c
 ·simp[Array.getD_eq_getD_getElem?,b]
theorem Io (Inv:(Nat->Bool)->Act->World->Prop)(hs: ∀L i o a w,ops[i]?=some o->L i=false->(∀e∈o.after,Region.binds .any e=true->L e.on=true)->Inv L a w->wpOp P ops Q i (λn w'=>Inv (λj=>decide (j=i) || L j) n w') a w)(s: ∀L a w,(∀j,j<ops.size->L j=true)->Inv L a w->Q .normal a w)(B: ∀i o,ops[i]?=some o-> ∀e∈o.after,Region.binds .any e=true->e.on<i):
  ∀(fuel:Nat) (l:Array Bool) (a:Act) (w:World),l.size=ops.size->left ops l<=fuel->Inv (λj=>l.getD j false) a w->wpAny P .any ops Q fuel l a w:=by
 have r: ∀l:Array Bool,l.size=ops.size->Region.ready .any ops l=[]-> ∀j,j<ops.size->l.getD j false=true:=λl g d j=>by
  induction j using Nat.strongRecOn with
  | _ j p=>
   intro u;cases hb:l.getD j false
   ·have E:j<l.size:=by omega
    have C:l.getD j true=false:=by
     rw[Array.getD_eq_getD_getElem?,Array.getElem?_eq_getElem E]at hb⊢;exact hb
    have v:j∈Region.ready .any ops l:=mem_ready.2 ⟨C,ops[j],Array.getElem?_eq_getElem u,λe D h=>by
     have k:=B j _ (Array.getElem?_eq_getElem u) e D h;exact p e.on k Ho⟩
    rw[d]at v;cases v
   ·rfl
 intro fuel
 induction fuel with
 |zero=>
  intro l a w g x m;have d:Region.ready .any ops l=[]:=List.eq_nil_iff_forall_not_mem.2 λi hi=>by
   obtain⟨f,o,c,_⟩:=mem_ready.1 hi;have k:i<ops.size:=by
    rcases Nat.lt_or_ge i ops.size with b|b
    ·exact b
    ·rw[Array.getElem?_eq_none b]at c;cases c
   have:=Dl (ops:=ops) k f;omega
  exact⟨d,s _ a w (r l g d) m⟩
 |succ fuel p=>
  intro l a w g x m;refine⟨λd=>s _ a w (r l g d) m,λi hi=>?_⟩;obtain⟨f,o,c,y⟩:=mem_ready.1 hi;have k:i<ops.size:=by
   rcases Nat.lt_or_ge i ops.size with b|b
   ·exact b
   ·rw[Array.getElem?_eq_none b]at c;cases c
  have t:i<l.size:=by omega
  have z:l.getD i false=false:=by
   rw[Array.getD_eq_getD_getElem?,Array.getElem?_eq_getElem t]at f⊢;exact f
  refine wpOp_mono (λn w' A=>p (l.setIfInBounds i true) n w' (by simpa using g) (by have:=Dl (ops:=ops) k f;omega) ?_) (hs _ i o a w c z y m);have e:(λj=>(l.setIfInBounds i true).getD j false)=λj=>decide (j=i) || l.getD j false:=by
   funext j
   by_cases q:i=j
   ·subst q;simp[Array.getD_eq_getD_getElem?,t]
   ·have F:decide (j=i)=false:=by simpa using λh:j=i=>q h.symm
    simp[Array.getD_eq_getD_getElem?,Array.getElem?_setIfInBounds_ne q,F]
  rw[e];exact A
theorem AA {id:Nat}{a:Act}{w:World}(g:P.follows .mixedOrders=true)(Inv:(Nat->Bool)->Act->World->Prop)(c:Inv (λ_=>false) a w.drew)(d: ∀i o,ops[i]?=some o-> ∀e∈o.after,Region.binds .any e=true->e.on<i)(hs: ∀L i o a w,ops[i]?=some o->L i=false->(∀e∈o.after,Region.binds .any e=true->L e.on=true)->Inv L a w->wpOp P ops Q i (λb w'=>Inv (λj=>decide (j=i) || L j) b w') a w)(f: ∀L a w,(∀j,j<ops.size->L j=true)->Inv L a w->Q .normal a w):(Code.region id ops true).wp P Q a w:=by
 refine wp_region_any g (Io Inv hs f d ops.size _ a _ II ?_ ?_)
 ·refine Nat.le_trans (List.length_filter_le _ _) II
 ·have e:(λj=>(Array.replicate ops.size false).getD j false)=λ_=>false:=by
   funext j
   rw[Array.getD_eq_getD_getElem?];by_cases h:j<ops.size
   ·simp[h]
   ·simp[h]
  rw[e];exact c
def Mo (ops:Array Oper)(a:Nat->List Nat):Bool:=(List.range ops.size).all λi=>match ops[i]? with
 |some o=>(o.after.all λe=>!Region.binds .any e || decide (e.on<i))&&(a i).all λd=>o.after.any λe=>Region.binds .any e&&e.on==d
 |none=>true
theorem mf {id:Nat}{a:Act}{w:World}(f:P.follows .mixedOrders=true)(k:Nat->List Nat)(u:Mo ops k=true)(Inv:(Nat->Bool)->Act->World->Prop)(q:Inv (λ_=>false) a w.drew)(hs: ∀L i a w,i<ops.size->L i=false->(∀d∈k i,L d=true)->Inv L a w->wpOp P ops Q i (λp w'=>Inv (λj=>decide (j=i) || L j) p w') a w)(v: ∀L a w,(∀j,j<ops.size->L j=true)->Inv L a w->Q .normal a w):(Code.region id ops true).wp P Q a w:=by
 have m: ∀i o,ops[i]?=some o->i<ops.size/\(∀e∈o.after,Region.binds .any e=true->e.on<i)/\ ∀d∈k i,∃e∈o.after,Region.binds .any e=true/\e.on=d:=λi o b=>by
  have n:i<ops.size:=by
   rcases Nat.lt_or_ge i ops.size with l|l
   ·exact l
   ·rw[Array.getElem?_eq_none l]at b;cases b
  have g:=List.all_eq_true.1 u i (List.mem_range.2 n);rw[b]at g;simp only[Bool.and_eq_true]at g;refine⟨n,λe f hb=>?_,λd hd=>?_⟩
  ·have c:=Array.all_eq_true_iff_forall_mem.1 g.1 e f;simpa[hb] using c
  ·have c:=List.all_eq_true.1 g.2 d hd;obtain⟨e,f,h⟩:=Array.any_eq_true'.1 c;rw[Bool.and_eq_true,beq_iff_eq]at h;exact⟨e,f,h⟩
 refine AA f Inv q (λi o b=>(m i o b).2.1) (λL i o a w b t c s=>hs L i a w (m i o b).1 t (λd hd=>?_) s) v;obtain⟨e,h,r,rfl⟩:=(m i o b).2.2 d hd;exact c e h r
end
end Go.Proofs.YthnelebakkggjaaGreatDoor
