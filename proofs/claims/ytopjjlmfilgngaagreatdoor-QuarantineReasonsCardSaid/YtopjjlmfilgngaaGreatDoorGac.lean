/-
  Small lemmas for walks: equations of endings, worlds below a block, cells of new blocks, elements of a slice. No program is in sight. Bundles: the cells of a block at one world, told at every later one. No program is in sight. (Printed by gen_all.py.)
-/
import Derived.WalkLawsBesides
import Derived.WalkSpells
import Derived.BigQuiet
import Derived.Deep.Light
import Derived.Deep.RegionHeld3
import Derived.Test.YtopjjlmfilgngaaGreatDoorGaa
namespace Go.Proofs.YtopjjlmfilgngaaGreatDoor
set_option linter.unusedVariables false
set_option linter.unusedSimpArgs false
open Go.RowKit
theorem gp {a b:Bool}(h:a=b):Ending.returned (.bool a)=.returned (.bool b):=by rw[h]
theorem fV {k:IntKind}{a b:Int}(h:a=b):Ending.returned (.int k a)=.returned (.int k b):=by rw[h]
theorem fI {w:World}{o:Obj}:Below w.heap.size w (w.alloc o):=(Below.refl _ _).alloc (Nat.le_refl _) _
theorem below_drewN {B:Nat}{a w:World}(h:Below B a w)(n:Nat):Below B a (w.drewN n):=⟨h.os,h.tape,h.output,h.size,h.block⟩
theorem fH {w a b:World}(h:Below w.heap.size w a)(c:Below a.heap.size a b):Below w.heap.size w b:=h.trans (c.mono h.size)
theorem below_alloc2 {w:World}{o a:Obj}:Below w.heap.size w ((w.alloc o).alloc a):=fH fI fI
theorem fU {W a:World}(hb:Below W.heap.size W a):(∀b o,b<W.heap.size->a.cell? ⟨b,o,none⟩=W.cell? ⟨b,o,none⟩)/\(∀b o,b<W.heap.size->a.frozen? ⟨b,o,none⟩=W.frozen? ⟨b,o,none⟩):=
 ⟨λb o h=>hb.cell (p:=⟨b,o,none⟩) h,λb o h=>hb.frozen (p:=⟨b,o,none⟩) h⟩
theorem fP {w a:World}(h:Below w.drew.heap.size w.drew a):Below w.heap.size w a:=⟨h.os,h.tape,h.output,h.size,h.block⟩
theorem fO {W a:World}(hb:Below W.heap.size W a){b o:Nat}{v:Value}(h:b<W.heap.size)(e:W.cell? ⟨b,o,none⟩=some v):a.cell? ⟨b,o,none⟩=some v:=((fU hb).1 b o h).trans e
def GD:Value->Nat
 | .slice _ n _=>n
 | _=>0
def Hl (p:Prop):Prop:=p
theorem Hl.o {p:Prop}(h:Hl p):p:=h
theorem Hm {p:Prop}(h:p):Hl p:=h
def In {α:Type}[Rep α](w:World)(A:Option Addr)(n c:Nat)(xs:List α):Prop:=Sl w (λk=>k<w.heap.size) A n c xs
section
variable {α:Type}[Rep α]{w w':World}{A:Option Addr}{n c:Nat}{xs:List α}
theorem In.below (h:In w A n c xs)(hb:Below w.heap.size w w'):In w' A n c xs:=(Sl.keep (Same.below hb) h).mono λ_ a=>Nat.lt_of_lt_of_le a hb.size
theorem In.of_sl {S:Nat->Prop}(h:Sl w S A n c xs)(a: ∀k,S k->k<w.heap.size):In w A n c xs:=Sl.mono a h
theorem In.len (h:In w A n c xs):xs.length=n:=h.1
theorem In.le (h:In w A n c xs):n<=9223372036854775807:=by have:=h.2.1;have:=h.2.2.1;omega
theorem In.cap (h:In w A n c xs):n<=c/\c<=9223372036854775807:=⟨h.2.1,h.2.2.1⟩
theorem In.get (h:In w A n c xs){k:Nat}(d:k<n):
  ∃b off x,A=some ⟨b,off,none⟩/\b<w.heap.size/\Hl (xs.drop k=x::xs.drop (k+1))/\At w (λk=>k<w.heap.size) b (off+k*Rep.size α) x:=by
 obtain⟨b,off,e,hb,hi⟩:=h.2.2.2.2 (by omega);have a:k<xs.length:=by rw[h.1];exact d
 exact⟨b,off,xs[k],e,hb,List.drop_eq_getElem_cons a,hi k a⟩
theorem In.nil_:In (α:=α) w none 0 0 []:=Sl.nil_
end
theorem gG {α:Type}{xs:List α}{n k:Nat}(h:xs.length=n)(a:n<=k):xs.drop k=[]:=List.drop_eq_nil_of_le (by omega)
theorem iR {α:Type}{xs:List α}{k:Nat}{x:α}{l:List α}(h:xs.drop k=x::l):xs[k]?=some x/\k<xs.length:=by
 have b:k<xs.length:=by
  rcases Nat.lt_or_ge k xs.length with a|a
  ·exact a
  ·rw[List.drop_eq_nil_of_le a]at h;cases h
 rw[List.drop_eq_getElem_cons b]at h;injection h with h1 h2;exact⟨by rw[List.getElem?_eq_getElem b,h1],b⟩
section
variable {w:World}{A:Option Addr}{n c k:Nat}
theorem In.int {xs:List Int}(h:In w A n c xs)(f:k<n): ∃b off x,A=some ⟨b,off,none⟩/\b<w.heap.size/\Hl (xs.drop k=x::xs.drop (k+1))/\
  w.cell? ⟨b,off+k,none⟩=some (.int .i64 x)/\jU x:=by
 obtain⟨b,off,x,e,hb,i,j,⟨rfl,g⟩,d⟩:=h.get f;have a:=d 0 (by simp);exact⟨b,off,x,e,hb,i,by simpa[Rep.size] using a,g⟩
theorem In.str {xs:List ByteArray}(h:In w A n c xs)(f:k<n): ∃b off x,A=some ⟨b,off,none⟩/\b<w.heap.size/\Hl (xs.drop k=x::xs.drop (k+1))/\
  w.cell? ⟨b,off+k,none⟩=some (.string x)/\Str x:=by
 obtain⟨b,off,x,e,hb,i,j,⟨rfl,g⟩,d⟩:=h.get f;have a:=d 0 (by simp);exact⟨b,off,x,e,hb,i,by simpa[Rep.size] using a,g⟩
theorem In.val {xs:List Val}(h:In w A n c xs)(d:k<n): ∃b off x,A=some ⟨b,off,none⟩/\b<w.heap.size/\Hl (xs.drop k=x::xs.drop (k+1))/\
  w.cell? ⟨b,off+k*3,none⟩=some (.int .i64 x.kind)/\w.cell? ⟨b,off+k*3+1,none⟩=some (.int .i64 x.num)/\w.cell? ⟨b,off+k*3+2,none⟩=some (.string x.str)/\x.ok:=by
 obtain⟨b,off,x,e,hb,g,i,⟨rfl,f⟩,a⟩:=h.get d;exact⟨b,off,x,e,hb,g,a 0 (by simp[Val.cells]),a 1 (by simp[Val.cells]),a 2 (by simp[Val.cells]),f⟩
theorem In.col {xs:List Col}(h:In w A n c xs)(d:k<n): ∃b off x,A=some ⟨b,off,none⟩/\b<w.heap.size/\Hl (xs.drop k=x::xs.drop (k+1))/\
  w.cell? ⟨b,off+k*3,none⟩=some (.string x.name)/\w.cell? ⟨b,off+k*3+1,none⟩=some (.int .i64 x.kind)/\w.cell? ⟨b,off+k*3+2,none⟩=some (.bool x.nullable)/\x.ok:=by
 obtain⟨b,off,x,e,hb,g,i,⟨rfl,f⟩,a⟩:=h.get d;exact⟨b,off,x,e,hb,g,a 0 (by simp[Col.cells]),a 1 (by simp[Col.cells]),a 2 (by simp[Col.cells]),f⟩
theorem In.ent {xs:List Ent}(h:In w A n c xs)(d:k<n): ∃b off x,A=some ⟨b,off,none⟩/\b<w.heap.size/\Hl (xs.drop k=x::xs.drop (k+1))/\
  ∃A' n' c',w.cell? ⟨b,off+k*2,none⟩=some (.slice A' n' c')/\w.cell? ⟨b,off+k*2+1,none⟩=some (.int .i64 x.count)/\In w A' n' c' x.row/\jU x.count:=by
 obtain⟨b,off,x,e,hb,g,i,⟨A',n',c',rfl,hs,f⟩,a⟩:=h.get d;exact⟨b,off,x,e,hb,g,A',n',c',a 0 (by simp),a 1 (by simp),hs,f⟩
end
section
variable {P:Program}
theorem iM {fn:Func}{p:Tmp}{ty:TypeId}(h:fn.results= #[.cell p ty])(c:Array Value)(w:World)(g:Nat)(cs:List Value)(d:TypeDesc)(m:c.getD p undef=.pointer (some ⟨g,0,none⟩))(k: ∀j v,cs[j]?=some v->w.cell? ⟨g,j,none⟩=some v)(o:P.underlying ty=some d)(hd:(match d with| .struct _| .array _ _=>true| _=>false)=true)(hi:(P.info? ty).map (·.size)=some cs.length):
  (results fn c).run P w=.ok (.agg cs.toArray) w:=by
 have l:(loadCells ⟨g,0,none⟩ cs.length).run P w=.ok cs.toArray w:=
  run_loadCells_list (P:=P) w ⟨g,0,none⟩ cs (λj v b=>by
   have e:(⟨g,0,none⟩:Addr).add j=⟨g,j,none⟩:=by unfold Addr.add;split<;>simp_all
   rw[e];exact k j v b)
 have b:(loadVar ty ⟨g,0,none⟩).run P w=.ok (.agg cs.toArray) w:=by
  cases a:P.info? ty with
  |none=>simp[a]at hi
  |some i=>
   have hs:i.size=cs.length:=by simpa[a] using hi
   have f:(isAgg ty).run P w=.ok true w:=by
    unfold isAgg;rw[Sem.run_bind,run_underlying o w];cases d<;>simp_all
   simp[loadVar,Sem.run_bind,f,sizeOf,typeInfo,a,hs,l]
 have n:c[p]?.getD undef=.pointer (some ⟨g,0,none⟩):=by simpa using m
 simp[results,h,n,asAddr,b]
end
theorem iC {w:World}{b o:Nat}{u v:Value}(h:w.cell? ⟨b,o,none⟩=some u):(w.setCell ⟨b,o,none⟩ v).cell? ⟨b,o,none⟩=some v:=World.cell?_setCell_same w _ v h
theorem fM {w:World}{b o b' o':Nat}{u v:Value}(h:w.cell? ⟨b,o,none⟩=some u)(a:b≠b'\/o≠o'):(w.setCell ⟨b',o',none⟩ v).cell? ⟨b,o,none⟩=some u:=
 (World.cell?_setCell_other w ⟨b',o',none⟩ ⟨b,o,none⟩ v (by intro e;injection e with e1 e2;omega)).trans h
theorem iJ {w:World}{g:Nat}{e f h v0 v1 v2:Value}(b:w.cell? ⟨g,0,none⟩=some e)(c:w.cell? ⟨g,1,none⟩=some f)(d:w.cell? ⟨g,2,none⟩=some h):
  ∀j v,[v0,v1,v2][j]?=some v->(((w.setCell ⟨g,0,none⟩ v0).setCell ⟨g,1,none⟩ v1).setCell ⟨g,2,none⟩ v2).cell? ⟨g,j,none⟩=some v:=by
 intro j v a
 match j,a with
 | 0,a=>simp at a;subst a;exact fM (fM (iC b) (.inr (by omega))) (.inr (by omega))
 | 1,a=>simp at a;subst a;exact fM (iC (fM c (.inr (by omega)))) (.inr (by omega))
 | 2,a=>simp at a;subst a;exact iC (fM (fM d (.inr (by omega))) (.inr (by omega)))
theorem lL {α:Type}:(∀(l:List α) (i:Nat) (h:i<l.toArray.size),l.toArray[i]=l[i]'(by simpa using h))/\(∀(a:α) (l:List α) (i:Nat) (h:i+1<(a::l).length),(a::l)[i+1]=l[i]'(by simpa using h))/\(∀(a:α) (l:List α) (h:0<(a::l).length),(a::l)[0]=a)/\(∀(l:List α) (i:Nat) (a:α),l.toArray.setIfInBounds i a=(l.set i a).toArray)/\(∀(x:α) (l:List α) (a:α),(x::l).set 0 a=a::l)/\(∀(x:α) (l:List α) (n:Nat) (a:α),(x::l).set (n+1) a=x::l.set n a):=
 ⟨λl i h=>by simp,λa l i h=>by simp,λa l h=>by simp,λl i a=>by simp,λx l a=>by simp,λx l n a=>by simp⟩
def iF (w:World)(t:TypeId)(g:Nat):Prop:= ∃a,w.heap[g]?=some (.cells a t (0,0))
def New (w w':World)(t:TypeId)(g:Nat):Prop:=w.heap.size<=g/\iF w' t g
def iy (w:World)(g:Nat)(t:TypeId)(m:Nat):Prop:= ∃a,w.heap[g]?=some (.cells a t (0,0))/\a.size=m
theorem iF.lt {w:World}{t g:Nat}(h:iF w t g):g<w.heap.size:=by
 obtain⟨c,h⟩:=h;exact(Array.getElem?_eq_some_iff.1 h).1
theorem iF.ne {w:World}{t d g b:Nat}(h:iF w t g)(a:iF w d b)(f:t≠d):g≠b:=by
 rintro rfl;obtain⟨c,h⟩:=h;obtain⟨c',a⟩:=a;rw[h]at a;injection a with a;injection a with _ e;exact f e
theorem iF.below {w w':World}{t g:Nat}(h:iF w t g)(hb:Below w.heap.size w w'):iF w' t g:=by
 obtain⟨c,a⟩:=h;exact⟨c,(hb.block g (iF.lt ⟨c,a⟩)).trans a⟩
theorem iy.ty {w:World}{g t m:Nat}(h:iy w g t m):iF w t g:=by obtain⟨c,h,_⟩:=h;exact⟨c,h⟩
theorem iy.lt {w:World}{g t m:Nat}(h:iy w g t m):g<w.heap.size:=h.ty.lt
theorem iy.below {w w':World}{g t m:Nat}(h:iy w g t m)(hb:Below w.heap.size w w'):iy w' g t m:=by
 have b:=h.lt;obtain⟨c,a,d⟩:=h;exact⟨c,(hb.block g b).trans a,d⟩
theorem iy.cell {w:World}{g t m o:Nat}(h:iy w g t m)(d:o<m): ∃u,w.cell? ⟨g,o,none⟩=some u:=by
 obtain⟨c,a,b⟩:=h;exact⟨c[o],by rw[cell_of_row w g o c t (0,0) a,Array.getElem?_eq_getElem (by omega)]⟩
theorem iy.frozen {w:World}{g t m:Nat}(h:iy w g t m)(o:Nat):w.frozen? ⟨g,o,none⟩=false:=by
 obtain⟨c,a,b⟩:=h;exact frozen_of_row w g o c t a
theorem iF.set {w:World}{g t:Nat}(h:iF w t g)(b o:Nat)(v:Value):iF (w.setCell ⟨b,o,none⟩ v) t g:=by
 obtain⟨c,a⟩:=h;by_cases d:g=b
 ·subst d;exact⟨c.setIfInBounds o v,by simp[World.setCell,Array.getElem?_modify,a]⟩
 ·exact⟨c,by simp[World.setCell,Array.getElem?_modify,a,show ¬b=g from λe=>d e.symm]⟩
theorem iy.set {w:World}{g t m:Nat}(h:iy w g t m)(b o:Nat)(v:Value):iy (w.setCell ⟨b,o,none⟩ v) g t m:=by
 obtain⟨c,a,f⟩:=h;by_cases d:g=b
 ·subst d;exact⟨c.setIfInBounds o v,by simp[World.setCell,Array.getElem?_modify,a],by simp[f]⟩
 ·exact⟨c,by simp[World.setCell,Array.getElem?_modify,a,show ¬b=g from λe=>d e.symm],f⟩
theorem iy.made (w:World)(a:Array Value)(t m:Nat)(b:a.size=m):iy (w.alloc (.cells a t)) w.heap.size t m:=⟨a,heap_alloc_new w _,b⟩
theorem vw {P:Program}(t e:TypeId)(i:TypeInfo)(z:Value)(f:P.underlying t=some (.slice e))(hi:P.info? e=some i)(g:i.zero=some z)(d b:IntKind)(n c:Nat)(l:n<=c)(k:i.bytes*c<=281474976710656)(j:c<=9223372036854775807)(w:World):
  (Instr.makeSlice t (.int d (n:Int)) (.int b (c:Int))).run P w=.ok (.slice (some ⟨w.heap.size,0,none⟩) n c) (w.alloc (.cells (madeCells z.cells (c*i.size)) e)):=by
 have hb:(i.bytes:Int)*(c:Int)<=281474976710656:=by
  have h:((i.bytes*c:Nat):Int)<=281474976710656:=by omega
  rwa [Int.natCast_mul]at h
 have a:=run_make (P:=P) w t e i z f hi g d b n c (by omega) (by omega) hb (by omega);simp only[Int.toNat_natCast]at a;exact a
theorem mY {w W:World}{b:Nat}{t:TypeId}{a:Value}(h:W=w.alloc (.cells #[a] t))(hb:w.heap.size=b):
  Below w.heap.size w W/\Hl (W.heap.size=w.heap.size+1)/\W.cell? ⟨b,0,none⟩=some a:=by
 subst hb;subst h;exact⟨fI,Hm (World.size_alloc _ _),by simp[go_sem]⟩
theorem wX {w W:World}{b:Nat}{t:TypeId}{a c:Value}(h:W=w.alloc (.cells #[a,c] t))(hb:w.heap.size=b):
  Below w.heap.size w W/\Hl (W.heap.size=w.heap.size+1)/\W.cell? ⟨b,0,none⟩=some a/\W.cell? ⟨b,1,none⟩=some c:=by
 subst hb;subst h;exact⟨fI,Hm (World.size_alloc _ _),by simp[go_sem],by simp[go_sem]⟩
theorem vB {w W:World}{b:Nat}{t:TypeId}{a c d:Value}(h:W=w.alloc (.cells #[a,c,d] t))(hb:w.heap.size=b):
  Below w.heap.size w W/\Hl (W.heap.size=w.heap.size+1)/\W.cell? ⟨b,0,none⟩=some a/\W.cell? ⟨b,1,none⟩=some c/\W.cell? ⟨b,2,none⟩=some d:=by
 subst hb;subst h;exact⟨fI,Hm (World.size_alloc _ _),by simp[go_sem],by simp[go_sem],by simp[go_sem]⟩
theorem jV {w W:World}{b:Nat}{t:TypeId}{a c d e:Value}(h:W=w.alloc (.cells #[a,c,d,e] t))(hb:w.heap.size=b):
  Below w.heap.size w W/\Hl (W.heap.size=w.heap.size+1)/\W.cell? ⟨b,0,none⟩=some a/\W.cell? ⟨b,1,none⟩=some c/\W.cell? ⟨b,2,none⟩=some d/\W.cell? ⟨b,3,none⟩=some e:=by
 subst hb;subst h;exact⟨fI,Hm (World.size_alloc _ _),by simp[go_sem],by simp[go_sem],by simp[go_sem],by simp[go_sem]⟩
theorem Oi {w W:World}{b:Nat}{t:TypeId}{a c d e f g:Value}(h:W=w.alloc (.cells #[a,c,d,e,f,g] t))(hb:w.heap.size=b):
  Below w.heap.size w W/\Hl (W.heap.size=w.heap.size+1)/\W.cell? ⟨b,0,none⟩=some a/\W.cell? ⟨b,1,none⟩=some c/\W.cell? ⟨b,2,none⟩=some d/\W.cell? ⟨b,3,none⟩=some e/\W.cell? ⟨b,4,none⟩=some f/\W.cell? ⟨b,5,none⟩=some g:=by
 subst hb;subst h;exact⟨fI,Hm (World.size_alloc _ _),by simp[go_sem],by simp[go_sem],by simp[go_sem],by simp[go_sem],by simp[go_sem],by simp[go_sem]⟩
theorem iE {w W:World}{b:Nat}{t:TypeId}{a c i j k l m n o p d e f g:Value}(h:W=w.alloc (.cells #[a,c,i,j,k,l,m,n,o,p,d,e,f,g] t))(hb:w.heap.size=b):
  Below w.heap.size w W/\Hl (W.heap.size=w.heap.size+1)/\W.cell? ⟨b,0,none⟩=some a/\W.cell? ⟨b,1,none⟩=some c/\W.cell? ⟨b,2,none⟩=some i/\W.cell? ⟨b,3,none⟩=some j/\W.cell? ⟨b,4,none⟩=some k/\W.cell? ⟨b,5,none⟩=some l/\W.cell? ⟨b,6,none⟩=some m/\W.cell? ⟨b,7,none⟩=some n/\W.cell? ⟨b,8,none⟩=some o/\W.cell? ⟨b,9,none⟩=some p/\W.cell? ⟨b,10,none⟩=some d/\W.cell? ⟨b,11,none⟩=some e/\W.cell? ⟨b,12,none⟩=some f/\W.cell? ⟨b,13,none⟩=some g:=by
 subst hb;subst h;exact⟨fI,Hm (World.size_alloc _ _),by simp[go_sem],by simp[go_sem],by simp[go_sem],by simp[go_sem],by simp[go_sem],by simp[go_sem],by simp[go_sem],by simp[go_sem],by simp[go_sem],by simp[go_sem],by simp[go_sem],by simp[go_sem],by simp[go_sem],by simp[go_sem]⟩
theorem Pn {W a:World}(hb:Below W.heap.size W a){b c d:Nat}{e f:Value}(h:b<W.heap.size)(g:W.cell? ⟨b,c,none⟩=some e)(i:W.cell? ⟨b,d,none⟩=some f):
  a.cell? ⟨b,c,none⟩=some e/\a.cell? ⟨b,d,none⟩=some f/\b<a.heap.size:=
 ⟨fO hb h g,fO hb h i,Nat.lt_of_lt_of_le h hb.size⟩
theorem xI {W a:World}(hb:Below W.heap.size W a){b c d e f:Nat}{g i j k:Value}(h:b<W.heap.size)(l:W.cell? ⟨b,c,none⟩=some g)(m:W.cell? ⟨b,d,none⟩=some i)(n:W.cell? ⟨b,e,none⟩=some j)(o:W.cell? ⟨b,f,none⟩=some k):
  a.cell? ⟨b,c,none⟩=some g/\a.cell? ⟨b,d,none⟩=some i/\a.cell? ⟨b,e,none⟩=some j/\a.cell? ⟨b,f,none⟩=some k/\b<a.heap.size:=
 ⟨fO hb h l,fO hb h m,fO hb h n,fO hb h o,Nat.lt_of_lt_of_le h hb.size⟩
theorem jE {W a:World}(hb:Below W.heap.size W a){b c d j k l m n o p q e f g i:Nat}{r s x y z A B C D E t u v w:Value}(h:b<W.heap.size)(F:W.cell? ⟨b,c,none⟩=some r)(G:W.cell? ⟨b,d,none⟩=some s)(L:W.cell? ⟨b,j,none⟩=some x)(M:W.cell? ⟨b,k,none⟩=some y)(N:W.cell? ⟨b,l,none⟩=some z)(O:W.cell? ⟨b,m,none⟩=some A)(P:W.cell? ⟨b,n,none⟩=some B)(Q:W.cell? ⟨b,o,none⟩=some C)(R:W.cell? ⟨b,p,none⟩=some D)(S:W.cell? ⟨b,q,none⟩=some E)(H:W.cell? ⟨b,e,none⟩=some t)(I:W.cell? ⟨b,f,none⟩=some u)(J:W.cell? ⟨b,g,none⟩=some v)(K:W.cell? ⟨b,i,none⟩=some w):
  a.cell? ⟨b,c,none⟩=some r/\a.cell? ⟨b,d,none⟩=some s/\a.cell? ⟨b,j,none⟩=some x/\a.cell? ⟨b,k,none⟩=some y/\a.cell? ⟨b,l,none⟩=some z/\a.cell? ⟨b,m,none⟩=some A/\a.cell? ⟨b,n,none⟩=some B/\a.cell? ⟨b,o,none⟩=some C/\a.cell? ⟨b,p,none⟩=some D/\a.cell? ⟨b,q,none⟩=some E/\a.cell? ⟨b,e,none⟩=some t/\a.cell? ⟨b,f,none⟩=some u/\a.cell? ⟨b,g,none⟩=some v/\a.cell? ⟨b,i,none⟩=some w/\b<a.heap.size:=
 ⟨fO hb h F,fO hb h G,fO hb h L,fO hb h M,fO hb h N,fO hb h O,fO hb h P,fO hb h Q,fO hb h R,fO hb h S,fO hb h H,fO hb h I,fO hb h J,fO hb h K,Nat.lt_of_lt_of_le h hb.size⟩
section
variable {W:World}{b:Nat}
theorem rE {P Q:World->Prop}(h:Hl (∀V,Below W.heap.size W V->P V))(g:Hl (∀V,Below W.heap.size W V->Q V)):Hl (∀V,Below W.heap.size W V->P V/\Q V):=λV a=>⟨h.o V a,g.o V a⟩
theorem all1 {c:Nat}{d:Value}(a:W.cell? ⟨b,c,none⟩=some d):Hl (∀V,Below W.heap.size W V->V.cell? ⟨b,c,none⟩=some d):=λV h=>fO h (lt_of_cell a) a
theorem all2 {d e:Nat}{f g:Value}(a:W.cell? ⟨b,d,none⟩=some f)(c:W.cell? ⟨b,e,none⟩=some g):Hl (∀V,Below W.heap.size W V->V.cell? ⟨b,d,none⟩=some f/\V.cell? ⟨b,e,none⟩=some g):=λV h=>⟨fO h (lt_of_cell a) a,fO h (lt_of_cell c) c⟩
theorem PD {e f g:Nat}{i j k:Value}(a:W.cell? ⟨b,e,none⟩=some i)(c:W.cell? ⟨b,f,none⟩=some j)(d:W.cell? ⟨b,g,none⟩=some k):Hl (∀V,Below W.heap.size W V->V.cell? ⟨b,e,none⟩=some i/\V.cell? ⟨b,f,none⟩=some j/\V.cell? ⟨b,g,none⟩=some k):=λV h=>⟨fO h (lt_of_cell a) a,fO h (lt_of_cell c) c,fO h (lt_of_cell d) d⟩
theorem PE {f g i j:Nat}{k l m n:Value}(a:W.cell? ⟨b,f,none⟩=some k)(c:W.cell? ⟨b,g,none⟩=some l)(d:W.cell? ⟨b,i,none⟩=some m)(e:W.cell? ⟨b,j,none⟩=some n):Hl (∀V,Below W.heap.size W V->V.cell? ⟨b,f,none⟩=some k/\V.cell? ⟨b,g,none⟩=some l/\V.cell? ⟨b,i,none⟩=some m/\V.cell? ⟨b,j,none⟩=some n):=λV h=>⟨fO h (lt_of_cell a) a,fO h (lt_of_cell c) c,fO h (lt_of_cell d) d,fO h (lt_of_cell e) e⟩
theorem Pj {q r w x y z A B C D s t u v:Nat}{E F K L M N O P Q R G H I J:Value}(a:W.cell? ⟨b,q,none⟩=some E)(c:W.cell? ⟨b,r,none⟩=some F)(i:W.cell? ⟨b,w,none⟩=some K)(j:W.cell? ⟨b,x,none⟩=some L)(k:W.cell? ⟨b,y,none⟩=some M)(l:W.cell? ⟨b,z,none⟩=some N)(m:W.cell? ⟨b,A,none⟩=some O)(n:W.cell? ⟨b,B,none⟩=some P)(o:W.cell? ⟨b,C,none⟩=some Q)(p:W.cell? ⟨b,D,none⟩=some R)(d:W.cell? ⟨b,s,none⟩=some G)(e:W.cell? ⟨b,t,none⟩=some H)(f:W.cell? ⟨b,u,none⟩=some I)(g:W.cell? ⟨b,v,none⟩=some J):Hl (∀V,Below W.heap.size W V->V.cell? ⟨b,q,none⟩=some E/\V.cell? ⟨b,r,none⟩=some F/\V.cell? ⟨b,w,none⟩=some K/\V.cell? ⟨b,x,none⟩=some L/\V.cell? ⟨b,y,none⟩=some M/\V.cell? ⟨b,z,none⟩=some N/\V.cell? ⟨b,A,none⟩=some O/\V.cell? ⟨b,B,none⟩=some P/\V.cell? ⟨b,C,none⟩=some Q/\V.cell? ⟨b,D,none⟩=some R/\V.cell? ⟨b,s,none⟩=some G/\V.cell? ⟨b,t,none⟩=some H/\V.cell? ⟨b,u,none⟩=some I/\V.cell? ⟨b,v,none⟩=some J):=λV h=>⟨fO h (lt_of_cell a) a,fO h (lt_of_cell c) c,fO h (lt_of_cell i) i,fO h (lt_of_cell j) j,fO h (lt_of_cell k) k,fO h (lt_of_cell l) l,fO h (lt_of_cell m) m,fO h (lt_of_cell n) n,fO h (lt_of_cell o) o,fO h (lt_of_cell p) p,fO h (lt_of_cell d) d,fO h (lt_of_cell e) e,fO h (lt_of_cell f) f,fO h (lt_of_cell g) g⟩
theorem qM {c:Nat}{d:Value}(a:W.cell? ⟨b,c,none⟩=some d):Hl (∀V,Below W.heap.size W V->b<V.heap.size/\V.cell? ⟨b,c,none⟩=some d):=λV h=>⟨Nat.lt_of_lt_of_le (lt_of_cell a) h.size,(all1 a).o V h⟩
theorem Kg {c d:Nat}{e f:Value}(a:W.cell? ⟨b,c,none⟩=some e)(g:W.cell? ⟨b,d,none⟩=some f):Hl (∀V,Below W.heap.size W V->b<V.heap.size/\V.cell? ⟨b,c,none⟩=some e/\V.cell? ⟨b,d,none⟩=some f):=λV h=>⟨Nat.lt_of_lt_of_le (lt_of_cell a) h.size,(all2 a g).o V h⟩
theorem Ir {c d e:Nat}{f g i:Value}(a:W.cell? ⟨b,c,none⟩=some f)(j:W.cell? ⟨b,d,none⟩=some g)(k:W.cell? ⟨b,e,none⟩=some i):Hl (∀V,Below W.heap.size W V->b<V.heap.size/\V.cell? ⟨b,c,none⟩=some f/\V.cell? ⟨b,d,none⟩=some g/\V.cell? ⟨b,e,none⟩=some i):=λV h=>⟨Nat.lt_of_lt_of_le (lt_of_cell a) h.size,(PD a j k).o V h⟩
theorem kJ {c d e f:Nat}{g i j k:Value}(a:W.cell? ⟨b,c,none⟩=some g)(l:W.cell? ⟨b,d,none⟩=some i)(m:W.cell? ⟨b,e,none⟩=some j)(n:W.cell? ⟨b,f,none⟩=some k):Hl (∀V,Below W.heap.size W V->b<V.heap.size/\V.cell? ⟨b,c,none⟩=some g/\V.cell? ⟨b,d,none⟩=some i/\V.cell? ⟨b,e,none⟩=some j/\V.cell? ⟨b,f,none⟩=some k):=λV h=>⟨Nat.lt_of_lt_of_le (lt_of_cell a) h.size,(PE a l m n).o V h⟩
theorem lq {c d j k l m n p q r e f g i:Nat}{s t y z A B C D E F u v w x:Value}(a:W.cell? ⟨b,c,none⟩=some s)(G:W.cell? ⟨b,d,none⟩=some t)(L:W.cell? ⟨b,j,none⟩=some y)(M:W.cell? ⟨b,k,none⟩=some z)(N:W.cell? ⟨b,l,none⟩=some A)(O:W.cell? ⟨b,m,none⟩=some B)(P:W.cell? ⟨b,n,none⟩=some C)(Q:W.cell? ⟨b,p,none⟩=some D)(R:W.cell? ⟨b,q,none⟩=some E)(S:W.cell? ⟨b,r,none⟩=some F)(H:W.cell? ⟨b,e,none⟩=some u)(I:W.cell? ⟨b,f,none⟩=some v)(J:W.cell? ⟨b,g,none⟩=some w)(K:W.cell? ⟨b,i,none⟩=some x):Hl (∀V,Below W.heap.size W V->b<V.heap.size/\V.cell? ⟨b,c,none⟩=some s/\V.cell? ⟨b,d,none⟩=some t/\V.cell? ⟨b,j,none⟩=some y/\V.cell? ⟨b,k,none⟩=some z/\V.cell? ⟨b,l,none⟩=some A/\V.cell? ⟨b,m,none⟩=some B/\V.cell? ⟨b,n,none⟩=some C/\V.cell? ⟨b,p,none⟩=some D/\V.cell? ⟨b,q,none⟩=some E/\V.cell? ⟨b,r,none⟩=some F/\V.cell? ⟨b,e,none⟩=some u/\V.cell? ⟨b,f,none⟩=some v/\V.cell? ⟨b,g,none⟩=some w/\V.cell? ⟨b,i,none⟩=some x):=λV h=>⟨Nat.lt_of_lt_of_le (lt_of_cell a) h.size,(Pj a G L M N O P Q R S H I J K).o V h⟩
end
end Go.Proofs.YtopjjlmfilgngaaGreatDoor
