/-
  Small lemmas for walks: equations of endings, worlds below a block, cells of new blocks, elements of a slice. No program is in sight. Bundles: the cells of a block at one world, told at every later one. No program is in sight. (Printed by gen_all.py.)
-/
import Derived.WalkLawsBesides
import Derived.WalkSpells
import Derived.Deep.QuietTactic
import Derived.BigQuiet
import Derived.Deep.Light
import Derived.Deep.RegionHeld3
import Derived.Test.YtopjjlmfilgngaaGreatDoorGaa
namespace Go.Proofs.YtopjjlmfilgngaaGreatDoor
set_option linter.unusedVariables false
set_option linter.unusedSimpArgs false
open Go.RowKit
theorem ay {a b:Bool}(h:a=b):Ending.returned (.bool a)=.returned (.bool b):=by rw[h]
theorem ax {k:IntKind}{a b:Int}(h:a=b):Ending.returned (.int k a)=.returned (.int k b):=by rw[h]
theorem ae {w:World}{o:Obj}:Below w.heap.size w (w.alloc o):=(Below.refl _ _).alloc (Nat.le_refl _) _
theorem below_drewN {B:Nat}{a w:World}(h:Below B a w)(n:Nat):Below B a (w.drewN n):=⟨h.os,h.tape,h.output,h.size,h.block⟩
theorem aa {w a b:World}(h:Below w.heap.size w a)(h':Below a.heap.size a b):Below w.heap.size w b:=h.trans (h'.mono h.size)
theorem below_alloc2 {w:World}{o o':Obj}:Below w.heap.size w ((w.alloc o).alloc o'):=aa ae ae
theorem au {W w1:World}(hb:Below W.heap.size W w1):(∀b o,b<W.heap.size->w1.cell? ⟨b,o,none⟩=W.cell? ⟨b,o,none⟩)/\(∀b o,b<W.heap.size->w1.frozen? ⟨b,o,none⟩=W.frozen? ⟨b,o,none⟩):=
 ⟨λb o h=>hb.cell (p:=⟨b,o,none⟩) h,λb o h=>hb.frozen (p:=⟨b,o,none⟩) h⟩
theorem aj {w w1:World}(h:Below w.drew.heap.size w.drew w1):Below w.heap.size w w1:=⟨h.os,h.tape,h.output,h.size,h.block⟩
theorem ah {W w1:World}(hb:Below W.heap.size W w1){b o:Nat}{v:Value}(h:b<W.heap.size)(e:W.cell? ⟨b,o,none⟩=some v):w1.cell? ⟨b,o,none⟩=some v:=((au hb).1 b o h).trans e
def Iw:Value->Nat
 | .slice _ n _=>n
 | _=>0
theorem hide {p:Prop}(h:p):Hid p:=h
def In {α:Type}[Rep α](w:World)(A:Option Addr)(n c:Nat)(xs:List α):Prop:=Sl w (λk=>k<w.heap.size) A n c xs
section
variable {α:Type}[Rep α]{w w':World}{A:Option Addr}{n c:Nat}{xs:List α}
theorem In.below (h:In w A n c xs)(hb:Below w.heap.size w w'):In w' A n c xs:=(Sl.keep (Same.below hb) h).mono λ_ hk=>Nat.lt_of_lt_of_le hk hb.size
theorem In.of_sl {S:Nat->Prop}(h:Sl w S A n c xs)(hS: ∀k,S k->k<w.heap.size):In w A n c xs:=Sl.mono hS h
theorem In.len (h:In w A n c xs):xs.length=n:=h.1
theorem In.le (h:In w A n c xs):n<=9223372036854775807:=by have:=h.2.1;have:=h.2.2.1;omega
theorem In.cap (h:In w A n c xs):n<=c/\c<=9223372036854775807:=⟨h.2.1,h.2.2.1⟩
theorem In.get (h:In w A n c xs){k:Nat}(hk:k<n):
  ∃b off x,A=some ⟨b,off,none⟩/\b<w.heap.size/\Hid (xs.drop k=x :: xs.drop (k+1))/\At w (λk=>k<w.heap.size) b (off+k*Rep.size α) x:=by
 obtain ⟨b,off,e,hb,hi⟩:=h.2.2.2.2 (by omega);have hl:k<xs.length:=by rw[h.1];exact hk
 exact ⟨b,off,xs[k],e,hb,List.drop_eq_getElem_cons hl,hi k hl⟩
theorem In.nil_:In (α:=α) w none 0 0 []:=Sl.nil_
end
theorem aI {α:Type}{xs:List α}{n k:Nat}(h:xs.length=n)(hk:n<=k):xs.drop k=[]:=List.drop_eq_nil_of_le (by omega)
theorem bX {α:Type}{xs:List α}{k:Nat}{x:α}{l:List α}(h:xs.drop k=x :: l):xs[k]?=some x/\k<xs.length:=by
 have hl:k<xs.length:=by
  rcases Nat.lt_or_ge k xs.length with h'|h'
  ·exact h'
  ·rw[List.drop_eq_nil_of_le h']at h;cases h
 rw[List.drop_eq_getElem_cons hl]at h;injection h with h1 h2;exact ⟨by rw[List.getElem?_eq_getElem hl,h1],hl⟩
section
variable {w:World}{A:Option Addr}{n c k:Nat}
theorem In.int {xs:List Int}(h:In w A n c xs)(hk:k<n): ∃b off x,A=some ⟨b,off,none⟩/\b<w.heap.size/\Hid (xs.drop k=x :: xs.drop (k+1))/\
  w.cell? ⟨b,off+k,none⟩=some (.int .i64 x)/\eZ x:=by
 obtain ⟨b,off,x,e,hb,hx,cs,⟨rfl,hv⟩,hc⟩:=h.get hk;have h0:=hc 0 (by simp);exact ⟨b,off,x,e,hb,hx,by simpa[Rep.size] using h0,hv⟩
theorem In.str {xs:List ByteArray}(h:In w A n c xs)(hk:k<n): ∃b off x,A=some ⟨b,off,none⟩/\b<w.heap.size/\Hid (xs.drop k=x :: xs.drop (k+1))/\
  w.cell? ⟨b,off+k,none⟩=some (.string x)/\Str x:=by
 obtain ⟨b,off,x,e,hb,hx,cs,⟨rfl,hv⟩,hc⟩:=h.get hk;have h0:=hc 0 (by simp);exact ⟨b,off,x,e,hb,hx,by simpa[Rep.size] using h0,hv⟩
theorem In.val {xs:List Val}(h:In w A n c xs)(hk:k<n): ∃b off x,A=some ⟨b,off,none⟩/\b<w.heap.size/\Hid (xs.drop k=x :: xs.drop (k+1))/\
  w.cell? ⟨b,off+k*3,none⟩=some (.int .i64 x.kind)/\w.cell? ⟨b,off+k*3+1,none⟩=some (.int .i64 x.num)/\w.cell? ⟨b,off+k*3+2,none⟩=some (.string x.str)/\x.ok:=by
 obtain ⟨b,off,x,e,hb,hx,cs,⟨rfl,hv⟩,hc⟩:=h.get hk;exact ⟨b,off,x,e,hb,hx,hc 0 (by simp[Val.cells]),hc 1 (by simp[Val.cells]),hc 2 (by simp[Val.cells]),hv⟩
theorem In.col {xs:List Col}(h:In w A n c xs)(hk:k<n): ∃b off x,A=some ⟨b,off,none⟩/\b<w.heap.size/\Hid (xs.drop k=x :: xs.drop (k+1))/\
  w.cell? ⟨b,off+k*3,none⟩=some (.string x.name)/\w.cell? ⟨b,off+k*3+1,none⟩=some (.int .i64 x.kind)/\w.cell? ⟨b,off+k*3+2,none⟩=some (.bool x.nullable)/\x.ok:=by
 obtain ⟨b,off,x,e,hb,hx,cs,⟨rfl,hv⟩,hc⟩:=h.get hk;exact ⟨b,off,x,e,hb,hx,hc 0 (by simp[Col.cells]),hc 1 (by simp[Col.cells]),hc 2 (by simp[Col.cells]),hv⟩
theorem In.ent {xs:List Ent}(h:In w A n c xs)(hk:k<n): ∃b off x,A=some ⟨b,off,none⟩/\b<w.heap.size/\Hid (xs.drop k=x :: xs.drop (k+1))/\
  ∃A' n' c',w.cell? ⟨b,off+k*2,none⟩=some (.slice A' n' c')/\w.cell? ⟨b,off+k*2+1,none⟩=some (.int .i64 x.count)/\In w A' n' c' x.row/\eZ x.count:=by
 obtain ⟨b,off,x,e,hb,hx,cs,⟨A',n',c',rfl,hs,hv⟩,hc⟩:=h.get hk;exact ⟨b,off,x,e,hb,hx,A',n',c',hc 0 (by simp),hc 1 (by simp),hs,hv⟩
end
section
variable {P:Program}
theorem bJ {fn:Func}{p:Tmp}{ty:TypeId}(h:fn.results= #[.cell p ty])(tmps:Array Value)(w:World)(g:Nat)(cs:List Value)(d:TypeDesc)(hp:tmps.getD p undef=.pointer (some ⟨g,0,none⟩))(hc: ∀j v,cs[j]?=some v->w.cell? ⟨g,j,none⟩=some v)(hu:P.underlying ty=some d)(hd:(match d with| .struct _| .array _ _=>true| _=>false)=true)(hi:(P.info? ty).map (·.size)=some cs.length):
  (results fn tmps).run P w=.ok (.agg cs.toArray) w:=by
 have hl:(loadCells ⟨g,0,none⟩ cs.length).run P w=.ok cs.toArray w:=
  run_loadCells_list (P:=P) w ⟨g,0,none⟩ cs (λj v hv=>by
   have hadd:(⟨g,0,none⟩:Addr).add j=⟨g,j,none⟩:=by unfold Addr.add;split <;> simp_all
   rw[hadd];exact hc j v hv)
 have hv:(loadVar ty ⟨g,0,none⟩).run P w=.ok (.agg cs.toArray) w:=by
  cases hq:P.info? ty with
  |none=>simp[hq]at hi
  |some i=>
   have hs:i.size=cs.length:=by simpa[hq] using hi
   have hagg:(isAgg ty).run P w=.ok true w:=by
    unfold isAgg;rw[Sem.run_bind,run_underlying hu w];cases d <;> simp_all
   simp[loadVar,Sem.run_bind,hagg,sizeOf,typeInfo,hq,hs,hl]
 have hp':tmps[p]?.getD undef=.pointer (some ⟨g,0,none⟩):=by simpa using hp
 simp[results,h,hp',asAddr,hv]
end
theorem cO {w:World}{b o:Nat}{u v:Value}(h:w.cell? ⟨b,o,none⟩=some u):(w.setCell ⟨b,o,none⟩ v).cell? ⟨b,o,none⟩=some v:=World.cell?_setCell_same w _ v h
theorem ag {w:World}{b o b' o':Nat}{u v:Value}(h:w.cell? ⟨b,o,none⟩=some u)(hne:b≠b'\/o≠o'):(w.setCell ⟨b',o',none⟩ v).cell? ⟨b,o,none⟩=some u:=
 (World.cell?_setCell_other w ⟨b',o',none⟩ ⟨b,o,none⟩ v (by intro e;injection e with e1 e2;omega)).trans h
theorem dM {w:World}{g:Nat}{u0 u1 u2 v0 v1 v2:Value}(h0:w.cell? ⟨g,0,none⟩=some u0)(h1:w.cell? ⟨g,1,none⟩=some u1)(h2:w.cell? ⟨g,2,none⟩=some u2):
  ∀j v,[v0,v1,v2][j]?=some v->(((w.setCell ⟨g,0,none⟩ v0).setCell ⟨g,1,none⟩ v1).setCell ⟨g,2,none⟩ v2).cell? ⟨g,j,none⟩=some v:=by
 intro j v hv
 match j,hv with
 | 0,hv=>simp at hv;subst hv;exact ag (ag (cO h0) (.inr (by omega))) (.inr (by omega))
 | 1,hv=>simp at hv;subst hv;exact ag (cO (ag h1 (.inr (by omega)))) (.inr (by omega))
 | 2,hv=>simp at hv;subst hv;exact cO (ag (ag h2 (.inr (by omega))) (.inr (by omega)))
def dm (w:World)(t:TypeId)(g:Nat):Prop:= ∃cur,w.heap[g]?=some (.cells cur t (0,0))
def New (w w':World)(t:TypeId)(g:Nat):Prop:=w.heap.size<=g/\dm w' t g
def dP (w:World)(g:Nat)(t:TypeId)(m:Nat):Prop:= ∃cur,w.heap[g]?=some (.cells cur t (0,0))/\cur.size=m
theorem dm.lt {w:World}{t g:Nat}(h:dm w t g):g<w.heap.size:=by
 obtain ⟨c,h⟩:=h;exact (Array.getElem?_eq_some_iff.1 h).1
theorem dm.ne {w:World}{t t' g g':Nat}(h:dm w t g)(h':dm w t' g')(hne:t≠t'):g≠g':=by
 rintro rfl;obtain ⟨c,h⟩:=h;obtain ⟨c',h'⟩:=h';rw[h]at h';injection h' with h';injection h' with _ e;exact hne e
theorem dm.below {w w':World}{t g:Nat}(h:dm w t g)(hb:Below w.heap.size w w'):dm w' t g:=by
 obtain ⟨c,hc⟩:=h;exact ⟨c,(hb.block g (dm.lt ⟨c,hc⟩)).trans hc⟩
theorem dP.ty {w:World}{g t m:Nat}(h:dP w g t m):dm w t g:=by obtain ⟨c,h,_⟩:=h;exact ⟨c,h⟩
theorem dP.lt {w:World}{g t m:Nat}(h:dP w g t m):g<w.heap.size:=h.ty.lt
theorem dP.below {w w':World}{g t m:Nat}(h:dP w g t m)(hb:Below w.heap.size w w'):dP w' g t m:=by
 have hl:=h.lt;obtain ⟨c,hc,hm⟩:=h;exact ⟨c,(hb.block g hl).trans hc,hm⟩
theorem dP.cell {w:World}{g t m o:Nat}(h:dP w g t m)(ho:o<m): ∃u,w.cell? ⟨g,o,none⟩=some u:=by
 obtain ⟨c,hc,hm⟩:=h;exact ⟨c[o],by rw[cell_of_row w g o c t (0,0) hc,Array.getElem?_eq_getElem (by omega)]⟩
theorem dP.frozen {w:World}{g t m:Nat}(h:dP w g t m)(o:Nat):w.frozen? ⟨g,o,none⟩=false:=by
 obtain ⟨c,hc,hm⟩:=h;exact frozen_of_row w g o c t hc
theorem dm.set {w:World}{g t:Nat}(h:dm w t g)(b o:Nat)(v:Value):dm (w.setCell ⟨b,o,none⟩ v) t g:=by
 obtain ⟨c,hc⟩:=h;by_cases hg:g=b
 ·subst hg;exact ⟨c.setIfInBounds o v,by simp[World.setCell,Array.getElem?_modify,hc]⟩
 ·exact ⟨c,by simp[World.setCell,Array.getElem?_modify,hc,show ¬b=g from λe=>hg e.symm]⟩
theorem dP.set {w:World}{g t m:Nat}(h:dP w g t m)(b o:Nat)(v:Value):dP (w.setCell ⟨b,o,none⟩ v) g t m:=by
 obtain ⟨c,hc,hm⟩:=h;by_cases hg:g=b
 ·subst hg;exact ⟨c.setIfInBounds o v,by simp[World.setCell,Array.getElem?_modify,hc],by simp[hm]⟩
 ·exact ⟨c,by simp[World.setCell,Array.getElem?_modify,hc,show ¬b=g from λe=>hg e.symm],hm⟩
theorem dP.made (w:World)(cur:Array Value)(t m:Nat)(hm:cur.size=m):dP (w.alloc (.cells cur t)) w.heap.size t m:=⟨cur,heap_alloc_new w _,hm⟩
theorem tK {P:Program}(t e:TypeId)(i:TypeInfo)(z:Value)(ht:P.underlying t=some (.slice e))(hi:P.info? e=some i)(hz:i.zero=some z)(kl kc:IntKind)(n c:Nat)(hnc:n<=c)(hbytes:i.bytes*c<=281474976710656)(h63:c<=9223372036854775807)(w:World):
  (Instr.makeSlice t (.int kl (n:Int)) (.int kc (c:Int))).run P w=.ok (.slice (some ⟨w.heap.size,0,none⟩) n c) (w.alloc (.cells (madeCells z.cells (c*i.size)) e)):=by
 have hb:(i.bytes:Int)*(c:Int)<=281474976710656:=by
  have h:((i.bytes*c:Nat):Int)<=281474976710656:=by omega
  rwa [Int.natCast_mul]at h
 have hr:=run_make (P:=P) w t e i z ht hi hz kl kc n c (by omega) (by omega) hb (by omega);simp only[Int.toNat_natCast]at hr;exact hr
theorem kg {w W:World}{b:Nat}{t:TypeId}{a0:Value}(h:W=w.alloc (.cells #[a0] t))(hb:w.heap.size=b):
  Below w.heap.size w W/\Hid (W.heap.size=w.heap.size+1)/\W.cell? ⟨b,0,none⟩=some a0:=by
 subst hb;subst h;exact ⟨ae,hide (World.size_alloc _ _),by simp[go_sem]⟩
theorem Dj {w W:World}{b:Nat}{t:TypeId}{a0 a1:Value}(h:W=w.alloc (.cells #[a0,a1] t))(hb:w.heap.size=b):
  Below w.heap.size w W/\Hid (W.heap.size=w.heap.size+1)/\W.cell? ⟨b,0,none⟩=some a0/\W.cell? ⟨b,1,none⟩=some a1:=by
 subst hb;subst h;exact ⟨ae,hide (World.size_alloc _ _),by simp[go_sem],by simp[go_sem]⟩
theorem kr {w W:World}{b:Nat}{t:TypeId}{a0 a1 a2 a3:Value}(h:W=w.alloc (.cells #[a0,a1,a2,a3] t))(hb:w.heap.size=b):
  Below w.heap.size w W/\Hid (W.heap.size=w.heap.size+1)/\W.cell? ⟨b,0,none⟩=some a0/\W.cell? ⟨b,1,none⟩=some a1/\W.cell? ⟨b,2,none⟩=some a2/\W.cell? ⟨b,3,none⟩=some a3:=by
 subst hb;subst h;exact ⟨ae,hide (World.size_alloc _ _),by simp[go_sem],by simp[go_sem],by simp[go_sem],by simp[go_sem]⟩
theorem bT {w W:World}{b:Nat}{t:TypeId}{a0 a1 a2 a3 a4 a5 a6 a7 a8 a9 a10 a11 a12 a13:Value}(h:W=w.alloc (.cells #[a0,a1,a2,a3,a4,a5,a6,a7,a8,a9,a10,a11,a12,a13] t))(hb:w.heap.size=b):
  Below w.heap.size w W/\Hid (W.heap.size=w.heap.size+1)/\W.cell? ⟨b,0,none⟩=some a0/\W.cell? ⟨b,1,none⟩=some a1/\W.cell? ⟨b,2,none⟩=some a2/\W.cell? ⟨b,3,none⟩=some a3/\W.cell? ⟨b,4,none⟩=some a4/\W.cell? ⟨b,5,none⟩=some a5/\W.cell? ⟨b,6,none⟩=some a6/\W.cell? ⟨b,7,none⟩=some a7/\W.cell? ⟨b,8,none⟩=some a8/\W.cell? ⟨b,9,none⟩=some a9/\W.cell? ⟨b,10,none⟩=some a10/\W.cell? ⟨b,11,none⟩=some a11/\W.cell? ⟨b,12,none⟩=some a12/\W.cell? ⟨b,13,none⟩=some a13:=by
 subst hb;subst h;exact ⟨ae,hide (World.size_alloc _ _),by simp[go_sem],by simp[go_sem],by simp[go_sem],by simp[go_sem],by simp[go_sem],by simp[go_sem],by simp[go_sem],by simp[go_sem],by simp[go_sem],by simp[go_sem],by simp[go_sem],by simp[go_sem],by simp[go_sem],by simp[go_sem]⟩
theorem wU {W w1:World}(hb:Below W.heap.size W w1){b o0 o1 o2 o3:Nat}{v0 v1 v2 v3:Value}(h:b<W.heap.size)(e0:W.cell? ⟨b,o0,none⟩=some v0)(e1:W.cell? ⟨b,o1,none⟩=some v1)(e2:W.cell? ⟨b,o2,none⟩=some v2)(e3:W.cell? ⟨b,o3,none⟩=some v3):
  w1.cell? ⟨b,o0,none⟩=some v0/\w1.cell? ⟨b,o1,none⟩=some v1/\w1.cell? ⟨b,o2,none⟩=some v2/\w1.cell? ⟨b,o3,none⟩=some v3/\b<w1.heap.size:=
 ⟨ah hb h e0,ah hb h e1,ah hb h e2,ah hb h e3,Nat.lt_of_lt_of_le h hb.size⟩
theorem dR {W w1:World}(hb:Below W.heap.size W w1){b o0 o1 o2 o3 o4 o5 o6 o7 o8 o9 Ph DZ o12 o13:Nat}{v0 v1 v2 v3 v4 v5 v6 v7 v8 v9 v10 v11 v12 v13:Value}(h:b<W.heap.size)(e0:W.cell? ⟨b,o0,none⟩=some v0)(e1:W.cell? ⟨b,o1,none⟩=some v1)(e2:W.cell? ⟨b,o2,none⟩=some v2)(e3:W.cell? ⟨b,o3,none⟩=some v3)(e4:W.cell? ⟨b,o4,none⟩=some v4)(e5:W.cell? ⟨b,o5,none⟩=some v5)(e6:W.cell? ⟨b,o6,none⟩=some v6)(e7:W.cell? ⟨b,o7,none⟩=some v7)(e8:W.cell? ⟨b,o8,none⟩=some v8)(e9:W.cell? ⟨b,o9,none⟩=some v9)(e10:W.cell? ⟨b,Ph,none⟩=some v10)(e11:W.cell? ⟨b,DZ,none⟩=some v11)(e12:W.cell? ⟨b,o12,none⟩=some v12)(e13:W.cell? ⟨b,o13,none⟩=some v13):
  w1.cell? ⟨b,o0,none⟩=some v0/\w1.cell? ⟨b,o1,none⟩=some v1/\w1.cell? ⟨b,o2,none⟩=some v2/\w1.cell? ⟨b,o3,none⟩=some v3/\w1.cell? ⟨b,o4,none⟩=some v4/\w1.cell? ⟨b,o5,none⟩=some v5/\w1.cell? ⟨b,o6,none⟩=some v6/\w1.cell? ⟨b,o7,none⟩=some v7/\w1.cell? ⟨b,o8,none⟩=some v8/\w1.cell? ⟨b,o9,none⟩=some v9/\w1.cell? ⟨b,Ph,none⟩=some v10/\w1.cell? ⟨b,DZ,none⟩=some v11/\w1.cell? ⟨b,o12,none⟩=some v12/\w1.cell? ⟨b,o13,none⟩=some v13/\b<w1.heap.size:=
 ⟨ah hb h e0,ah hb h e1,ah hb h e2,ah hb h e3,ah hb h e4,ah hb h e5,ah hb h e6,ah hb h e7,ah hb h e8,ah hb h e9,ah hb h e10,ah hb h e11,ah hb h e12,ah hb h e13,Nat.lt_of_lt_of_le h hb.size⟩
section
variable {W:World}{b:Nat}
theorem Cw {P Q:World->Prop}(h:Hid (∀V,Below W.heap.size W V->P V))(g:Hid (∀V,Below W.heap.size W V->Q V)):Hid (∀V,Below W.heap.size W V->P V/\Q V):=λV hV=>⟨h.out V hV,g.out V hV⟩
theorem all1 {o0:Nat}{v0:Value}(e0:W.cell? ⟨b,o0,none⟩=some v0):Hid (∀V,Below W.heap.size W V->V.cell? ⟨b,o0,none⟩=some v0):=λV h=>ah h (lt_of_cell e0) e0
theorem all2 {o0 o1:Nat}{v0 v1:Value}(e0:W.cell? ⟨b,o0,none⟩=some v0)(e1:W.cell? ⟨b,o1,none⟩=some v1):Hid (∀V,Below W.heap.size W V->V.cell? ⟨b,o0,none⟩=some v0/\V.cell? ⟨b,o1,none⟩=some v1):=λV h=>⟨ah h (lt_of_cell e0) e0,ah h (lt_of_cell e1) e1⟩
theorem Zy {o0 o1 o2 o3:Nat}{v0 v1 v2 v3:Value}(e0:W.cell? ⟨b,o0,none⟩=some v0)(e1:W.cell? ⟨b,o1,none⟩=some v1)(e2:W.cell? ⟨b,o2,none⟩=some v2)(e3:W.cell? ⟨b,o3,none⟩=some v3):Hid (∀V,Below W.heap.size W V->V.cell? ⟨b,o0,none⟩=some v0/\V.cell? ⟨b,o1,none⟩=some v1/\V.cell? ⟨b,o2,none⟩=some v2/\V.cell? ⟨b,o3,none⟩=some v3):=λV h=>⟨ah h (lt_of_cell e0) e0,ah h (lt_of_cell e1) e1,ah h (lt_of_cell e2) e2,ah h (lt_of_cell e3) e3⟩
theorem VH {o0 o1 o2 o3 o4 o5 o6 o7 o8 o9 Ph DZ o12 o13:Nat}{v0 v1 v2 v3 v4 v5 v6 v7 v8 v9 v10 v11 v12 v13:Value}(e0:W.cell? ⟨b,o0,none⟩=some v0)(e1:W.cell? ⟨b,o1,none⟩=some v1)(e2:W.cell? ⟨b,o2,none⟩=some v2)(e3:W.cell? ⟨b,o3,none⟩=some v3)(e4:W.cell? ⟨b,o4,none⟩=some v4)(e5:W.cell? ⟨b,o5,none⟩=some v5)(e6:W.cell? ⟨b,o6,none⟩=some v6)(e7:W.cell? ⟨b,o7,none⟩=some v7)(e8:W.cell? ⟨b,o8,none⟩=some v8)(e9:W.cell? ⟨b,o9,none⟩=some v9)(e10:W.cell? ⟨b,Ph,none⟩=some v10)(e11:W.cell? ⟨b,DZ,none⟩=some v11)(e12:W.cell? ⟨b,o12,none⟩=some v12)(e13:W.cell? ⟨b,o13,none⟩=some v13):Hid (∀V,Below W.heap.size W V->V.cell? ⟨b,o0,none⟩=some v0/\V.cell? ⟨b,o1,none⟩=some v1/\V.cell? ⟨b,o2,none⟩=some v2/\V.cell? ⟨b,o3,none⟩=some v3/\V.cell? ⟨b,o4,none⟩=some v4/\V.cell? ⟨b,o5,none⟩=some v5/\V.cell? ⟨b,o6,none⟩=some v6/\V.cell? ⟨b,o7,none⟩=some v7/\V.cell? ⟨b,o8,none⟩=some v8/\V.cell? ⟨b,o9,none⟩=some v9/\V.cell? ⟨b,Ph,none⟩=some v10/\V.cell? ⟨b,DZ,none⟩=some v11/\V.cell? ⟨b,o12,none⟩=some v12/\V.cell? ⟨b,o13,none⟩=some v13):=λV h=>⟨ah h (lt_of_cell e0) e0,ah h (lt_of_cell e1) e1,ah h (lt_of_cell e2) e2,ah h (lt_of_cell e3) e3,ah h (lt_of_cell e4) e4,ah h (lt_of_cell e5) e5,ah h (lt_of_cell e6) e6,ah h (lt_of_cell e7) e7,ah h (lt_of_cell e8) e8,ah h (lt_of_cell e9) e9,ah h (lt_of_cell e10) e10,ah h (lt_of_cell e11) e11,ah h (lt_of_cell e12) e12,ah h (lt_of_cell e13) e13⟩
theorem pW {o0:Nat}{v0:Value}(e0:W.cell? ⟨b,o0,none⟩=some v0):Hid (∀V,Below W.heap.size W V->b<V.heap.size/\V.cell? ⟨b,o0,none⟩=some v0):=λV h=>⟨Nat.lt_of_lt_of_le (lt_of_cell e0) h.size,(all1 e0).out V h⟩
theorem MP {o0 o1:Nat}{v0 v1:Value}(e0:W.cell? ⟨b,o0,none⟩=some v0)(e1:W.cell? ⟨b,o1,none⟩=some v1):Hid (∀V,Below W.heap.size W V->b<V.heap.size/\V.cell? ⟨b,o0,none⟩=some v0/\V.cell? ⟨b,o1,none⟩=some v1):=λV h=>⟨Nat.lt_of_lt_of_le (lt_of_cell e0) h.size,(all2 e0 e1).out V h⟩
theorem sP {o0 o1 o2 o3:Nat}{v0 v1 v2 v3:Value}(e0:W.cell? ⟨b,o0,none⟩=some v0)(e1:W.cell? ⟨b,o1,none⟩=some v1)(e2:W.cell? ⟨b,o2,none⟩=some v2)(e3:W.cell? ⟨b,o3,none⟩=some v3):Hid (∀V,Below W.heap.size W V->b<V.heap.size/\V.cell? ⟨b,o0,none⟩=some v0/\V.cell? ⟨b,o1,none⟩=some v1/\V.cell? ⟨b,o2,none⟩=some v2/\V.cell? ⟨b,o3,none⟩=some v3):=λV h=>⟨Nat.lt_of_lt_of_le (lt_of_cell e0) h.size,(Zy e0 e1 e2 e3).out V h⟩
theorem mr {o0 o1 o2 o3 o4 o5 o6 o7 o8 o9 Ph DZ o12 o13:Nat}{v0 v1 v2 v3 v4 v5 v6 v7 v8 v9 v10 v11 v12 v13:Value}(e0:W.cell? ⟨b,o0,none⟩=some v0)(e1:W.cell? ⟨b,o1,none⟩=some v1)(e2:W.cell? ⟨b,o2,none⟩=some v2)(e3:W.cell? ⟨b,o3,none⟩=some v3)(e4:W.cell? ⟨b,o4,none⟩=some v4)(e5:W.cell? ⟨b,o5,none⟩=some v5)(e6:W.cell? ⟨b,o6,none⟩=some v6)(e7:W.cell? ⟨b,o7,none⟩=some v7)(e8:W.cell? ⟨b,o8,none⟩=some v8)(e9:W.cell? ⟨b,o9,none⟩=some v9)(e10:W.cell? ⟨b,Ph,none⟩=some v10)(e11:W.cell? ⟨b,DZ,none⟩=some v11)(e12:W.cell? ⟨b,o12,none⟩=some v12)(e13:W.cell? ⟨b,o13,none⟩=some v13):Hid (∀V,Below W.heap.size W V->b<V.heap.size/\V.cell? ⟨b,o0,none⟩=some v0/\V.cell? ⟨b,o1,none⟩=some v1/\V.cell? ⟨b,o2,none⟩=some v2/\V.cell? ⟨b,o3,none⟩=some v3/\V.cell? ⟨b,o4,none⟩=some v4/\V.cell? ⟨b,o5,none⟩=some v5/\V.cell? ⟨b,o6,none⟩=some v6/\V.cell? ⟨b,o7,none⟩=some v7/\V.cell? ⟨b,o8,none⟩=some v8/\V.cell? ⟨b,o9,none⟩=some v9/\V.cell? ⟨b,Ph,none⟩=some v10/\V.cell? ⟨b,DZ,none⟩=some v11/\V.cell? ⟨b,o12,none⟩=some v12/\V.cell? ⟨b,o13,none⟩=some v13):=λV h=>⟨Nat.lt_of_lt_of_le (lt_of_cell e0) h.size,(VH e0 e1 e2 e3 e4 e5 e6 e7 e8 e9 e10 e11 e12 e13).out V h⟩
end
end Go.Proofs.YtopjjlmfilgngaaGreatDoor
