/-
  Plain law: the encodings of two valid rows are equal only if the rows are. No program is in sight. A map from strings that the call has made: what lies at each key. No program is in sight. A map from strings to lists of strings that the call builds: each list is the call's own. No program is in sight.
-/
import Derived.Test.YtopjjlmfilgngaaGreatDoorGal
import Derived.Test.YtopjjlmfilgngaaGreatDoorGrp
import Derived.Test.YtopjjlmfilgngaaGreatDoorGae
namespace Go.Proofs.YtopjjlmfilgngaaGreatDoor
set_option linter.unusedSimpArgs false
set_option linter.unusedVariables false
theorem xE {a b:Int}(h:u8 a=u8 b)(ha:0<=a)(ha2:a<256)(hb:0<=b)(hb2:b<256):a=b:=by
 have h1:=congrArg (λx:UInt8=>(x.toNat:Int)) h;simp only[BI]at h1;omega
theorem wJ {a b:Int}(h:gX a=gX b)(ha:0<=a)(ha2:a<4294967296)(hb:0<=b)(hb2:b<4294967296):a=b:=by
 rw[gX,gX]at h;injection h with h1 h;injection h with h2 h;injection h with h3 h;injection h with h4 h;have e1:=congrArg (λx:UInt8=>(x.toNat:Int)) h1;have e2:=congrArg (λx:UInt8=>(x.toNat:Int)) h2;have e3:=congrArg (λx:UInt8=>(x.toNat:Int)) h3;have e4:=congrArg (λx:UInt8=>(x.toNat:Int)) h4;simp only[BI]at e1 e2 e3 e4;omega
theorem mE {s t:ByteArray}(h:s.data.toList=t.data.toList):s=t:=by
 obtain ⟨⟨a⟩⟩:=s;obtain ⟨⟨b⟩⟩:=t;simp only at h;rw[h]
theorem pY {s t:ByteArray}(h:s.size=0)(h':t.size=0):s=t:=by
 refine mE ?_;have h1:s.data.toList.length=0:=h;have h2:t.data.toList.length=0:=h';rw[List.eq_nil_of_length_eq_zero h1,List.eq_nil_of_length_eq_zero h2]
theorem E5 {v v':Val}{r r':List UInt8}(hv:valid v=true)(hv':valid v'=true)(h:dO v++r=dO v'++r'):v=v'/\r=r':=by
 obtain ⟨k,n,s⟩:=v;obtain ⟨k',n',s'⟩:=v';have c:=jL hv;have c':=jL hv';simp only at c c';have hk:0<=k/\k<256:=by omega
 have hk':0<=k'/\k'<256:=by omega
 rw[dO,dO,List.cons_append,List.cons_append]at h;injection h with h1 h;simp only at h1 h;obtain rfl:=xE h1 hk.1 hk.2 hk'.1 hk'.2;rcases c with ⟨rfl,c1,c2⟩|⟨rfl,c1,c2⟩|⟨rfl,c1,c2,c3⟩|⟨rfl,c1,c2⟩|⟨rfl,c1,c2,c3⟩
 ·have d1:n'=0:=by omega
  have d2:s'.size=0:=by omega
  subst c1 d1;obtain rfl:=pY c2 d2;exact ⟨rfl,by simpa using h⟩
 ·have d1:n'=0\/n'=1:=by omega
  have d2:s'.size=0:=by omega
  obtain rfl:=pY c2 d2;simp only[Int.reduceEq,↓reduceIte,List.cons_append,List.nil_append]at h;injection h with h2 h;obtain rfl:=xE h2 (by omega) (by omega) (by omega) (by omega);exact ⟨rfl,h⟩
 ·have d2:s'.size=0:=by omega
  obtain rfl:=pY c3 d2;simp only[Int.reduceEq,↓reduceIte,List.cons_append]at h;obtain ⟨h2,h3⟩:=List.append_inj h rfl;have:=wJ h2 (by omega) (by omega) (by omega) (by omega);obtain rfl:n=n':=by omega
  exact ⟨rfl,h3⟩
 ·have d1:n'=0:=by omega
  have d2:s'.size<=64:=by omega
  subst c1 d1;simp only[Int.reduceEq,↓reduceIte,List.cons_append]at h;injection h with h2 h;have hs:=xE h2 (by omega) (by omega) (by omega) (by omega);have hs2:s.data.toList.length=s'.data.toList.length:=by
   show s.size=s'.size;omega
  obtain ⟨h3,h4⟩:=List.append_inj h hs2;obtain rfl:=mE h3;exact ⟨rfl,h4⟩
 ·have d2:s'.size=0:=by omega
  obtain rfl:=pY c3 d2;simp only[Int.reduceEq,↓reduceIte,List.cons_append]at h;obtain ⟨h2,h3⟩:=List.append_inj h rfl;obtain rfl:=wJ h2 (by omega) (by omega) (by omega) (by omega);exact ⟨rfl,h3⟩
theorem yC: ∀{xs ys:List Val},xs.length=ys.length->(∀x∈xs,valid x=true)->(∀y∈ys,valid y=true)->xs.flatMap dO=ys.flatMap dO->xs=ys
 | [],[],_,_,_,_=>rfl
 | [],y :: ys,h,_,_,_=>by simp at h
 |x :: xs,[],h,_,_,_=>by simp at h
 |x :: xs,y :: ys,h,hx,hy,e=>by
  rw[List.flatMap_cons,List.flatMap_cons]at e;obtain ⟨rfl,e2⟩:=E5 (hx x (by simp)) (hy y (by simp)) e;rw[yC (by simpa using h) (λz hz=>hx z (by simp[hz])) (λz hz=>hy z (by simp[hz])) e2]
theorem EZ {xs ys:List Val}(hl:xs.length<=12)(hl':ys.length<=12)(hx: ∀x∈xs,valid x=true)(hy: ∀y∈ys,valid y=true)(h:encR xs=encR ys):xs=ys:=by
 rw[encR,encR]at h;injection h with h1 h2;have:=xE h1 (by omega) (by omega) (by omega) (by omega);exact yC (by omega) hx hy h2
open Go.RowKit Go.Maps
def fJ (P:Program)(K:TypeId)(w:World)(b n:Nat)(z:Value)(f:ByteArray->Value):Prop:=
 ∃D:DataW Value,w.ownsMap P K RV b n D/\Maps.IsMap D/\ ∀s:ByteArray,D.atKey (.string s.data.toList) (.held z)=.held (f s)
section
variable {P:Program}{t K e:TypeId}{w w1:World}{b n:Nat}{z:Value}{f:ByteArray->Value}
theorem fJ.made (P:Program)(K:TypeId)(w:World)(z:Value):fJ P K (w.alloc (.map #[] 0)) w.heap.size 0 z (λ_=>z):=
 ⟨.map [],World.ownsMap_made _ _ _ _,Maps.isMap_empty,λ_=>rfl⟩
theorem fJ.lt (h:fJ P K w b n z f):b<w.heap.size:=by
 obtain ⟨D,h1,_⟩:=h;exact h1.lt
theorem fJ.same (h:fJ P K w b n z f)(hb:w1.heap[b]?=w.heap[b]?):fJ P K w1 b n z f:=by
 obtain ⟨D,⟨es,clock,k1,k2⟩,h2,h3⟩:=h;exact ⟨D,⟨es,clock,hb.trans k1,k2⟩,h2,h3⟩
theorem fJ.below (h:fJ P K w b n z f)(hb:Below w.heap.size w w1):fJ P K w1 b n z f:=h.same (hb.block b h.lt)
theorem fJ.congr {f':ByteArray->Value}(h:fJ P K w b n z f)(he: ∀s,f s=f' s):fJ P K w b n z f':=by
 obtain ⟨D,h1,h2,h3⟩:=h;exact ⟨D,h1,h2,λs=>by rw[h3 s,he s]⟩
theorem fJ.mono {m:Nat}(h:fJ P K w b n z f)(hn:n<=m):fJ P K w b m z f:=by
 obtain ⟨D,h1,h2,h3⟩:=h;exact ⟨D,h1.mono hn,h2,h3⟩
theorem fJ.look (h:fJ P K w b n z f)(ht:P.underlying t=some (.map K e))(hK:P.underlying K=some .string)(hz: ∀V,(zeroValue e).run P V=.ok z V){s:ByteArray}(hs:s.size<=maxLen){V:World}(hV:V.heap[b]?=w.heap[b]?):
  (Instr.lookup t (.map (some b)) (.string s) false).run P V=.ok (f s) V:=by
 obtain ⟨D,h1,h2,h3⟩:=h.same hV;obtain ⟨v,ps,hrun,hv⟩:=h1.lookup (string_keyed hK) ht (hz V) (zd:=.held z) (zp:=[]) rfl (WideMaps.keyOf_string_mk hK hs);have e1:=h3 s;simp only[RV,Option.some.injEq,Prod.mk.injEq]at hv;rw[<-hv.1]at e1;injection e1 with e1;rw[<-e1];exact hrun
theorem fJ.update (h:fJ P K w b n z f)(ht:P.underlying t=some (.map K e))(hK:P.underlying K=some .string){s:ByteArray}(hs:s.size<=maxLen)(hn:n<maxLen)(v:Value):
  ∃w2,(Instr.mapUpdate t (.map (some b)) (.string s) v).run P w=.ok () w2/\fJ P K w2 b (n+1) z (λs'=>if s'=s then v else f s')/\w.grownBy w2 (some b):=by
 obtain ⟨D,h1,h2,h3⟩:=h;have Jw:WideAt.IsKeyLit (.string s.data.toList):=trivial;obtain ⟨w2,hrun,o2,g2⟩:=h1.update (string_keyed hK) ht hn (val:=v) (d:=.held v) (ps:=[]) (WideMaps.keyOf_string_mk hK hs) rfl;refine ⟨w2,hrun,⟨_,o2,h2.put _ _,λs'=>?_⟩,g2⟩;show _=DataW.held (if s'=s then v else f s');by_cases he:s'=s
 ·subst he;rw[if_pos rfl];exact Maps.atKey_put_same h2 Jw _ _
 ·rw[if_neg he,<-h3 s'];exact Maps.atKey_put_other (λq=>he (by injection q with q;exact mE q)) _ _
end
structure NMap (P:Program) (K e:TypeId) (B:Nat) (w:World) (b n:Nat) (f:ByteArray->Value) (F:ByteArray->List ByteArray):Prop where
 str:fJ P K w b n (.slice none 0 0) f
 own: ∀s,OL e B (λ_=>False) [] w (f s) (F s)
 sep: ∀s s' k,(f s).ownBlock=some k->(f s').ownBlock=some k->s=s'
section
variable {P:Program}{t K e st:TypeId}{w w1:World}{B b n:Nat}{f:ByteArray->Value}{F:ByteArray->List ByteArray}
theorem NMap.lt (h:NMap P K e B w b n f F):b<w.heap.size:=h.str.lt
theorem NMap.made (P:Program)(K e:TypeId)(w:World){B:Nat}(hB:B<=w.heap.size):NMap P K e B (w.alloc (.map #[] 0)) w.heap.size 0 (λ_=>.slice none 0 0) (λ_=>[]):=
 ⟨fJ.made P K w _,λs=>OL.nil (by simp;omega),λs s' k h=>by cases h⟩
theorem NMap.below (h:NMap P K e B w b n f F)(hb:Below w.heap.size w w1):NMap P K e B w1 b n f F:=⟨h.str.below hb,λs=>(h.own s).below hb,h.sep⟩
theorem NMap.mono {m:Nat}(h:NMap P K e B w b n f F)(hn:n<=m):NMap P K e B w b m f F:=⟨h.str.mono hn,h.own,h.sep⟩
theorem NMap.congr {F':ByteArray->List ByteArray}(h:NMap P K e B w b n f F)(he: ∀s,F s=F' s):NMap P K e B w b n f F':=⟨h.str,λs=>he s▸h.own s,h.sep⟩
theorem NMap.rebase {B0:Nat}(h:NMap P K e B w b n f F)(hB:B0<=B):NMap P K e B0 w b n f F:=⟨h.str,λs=>(h.own s).rebase hB,h.sep⟩
theorem NMap.off (h:NMap P K e B w b n f F)(s:ByteArray):(f s).ownBlock≠some b:=λq=>by
 obtain ⟨D,⟨es,clock,h1,_⟩,_⟩:=h.str;obtain ⟨_,c,h2⟩:=(h.own s).ty q;rw[h1]at h2;injection h2 with h2;cases h2
theorem NMap.grown {row:Option Nat}(h:NMap P K e B w b n f F)(hg:w.grownBy w1 row)(hr: ∀k,row=some k-> ∃t,bi w t k/\t≠e):NMap P K e B w1 b n f F:=
 ⟨h.str.same (hg.block b h.lt λq=>by
  obtain ⟨t,⟨c,h1⟩,_⟩:=hr b q.symm;obtain ⟨D,⟨es,clock,h2,_⟩,_⟩:=h.str;rw[h1]at h2;injection h2 with h2;cases h2),λs=>(h.own s).grown hg λk hk=>⟨λq=>by
   obtain ⟨t,h1,h2⟩:=hr k hk;exact bi.ne h1 ((h.own s).ty q).2 h2 rfl,λq=>by
   rcases q with ⟨q,_⟩|⟨_,t,ht,_⟩
   ·exact q
   ·cases ht⟩,h.sep⟩
theorem NMap.look (h:NMap P K e B w b n f F)(ht:P.underlying t=some (.map K st))(hK:P.underlying K=some .string)(hz: ∀V,(zeroValue st).run P V=.ok (.slice none 0 0) V){s:ByteArray}(hs:s.size<=maxLen){V:World}(hV:V.heap[b]?=w.heap[b]?):
  (Instr.lookup t (.map (some b)) (.string s) false).run P V=.ok (f s) V:=h.str.look ht hK hz hs hV
theorem NMap.push (h:NMap P K e B w b n f F)(ht:P.underlying t=some (.map K st))(hK:P.underlying K=some .string){T x:ByteArray}(hT:T.size<=maxLen)(hn:n<maxLen){w6:World}{v6:Value}(hg:w.grownBy w6 (f T).ownBlock)(ho:OL e B (λ_=>False) [] w6 v6 (F T++[x]))(hat:v6.ownBlock=(f T).ownBlock\/ ∃k,v6.ownBlock=some k/\w.heap.size<=k):
  ∃w7,(Instr.mapUpdate t (.map (some b)) (.string T) v6).run P w6=.ok () w7/\NMap P K e B w7 b (n+1) (λs=>if s=T then v6 else f s) (λs=>if s=T then F T++[x] else F s)/\w6.grownBy w7 (some b):=by
 have hb6:w6.heap[b]?=w.heap[b]?:=hg.block b h.lt λq=>h.off T q.symm;obtain ⟨w7,hrun,hm,Bf⟩:=(h.str.same hb6).update ht hK hT hn v6;have hmap: ∃es cl,w6.heap[b]?=some (.map es cl):=by
  obtain ⟨D,⟨es,clock,h1,_⟩,_⟩:=h.str;exact ⟨es,clock,hb6.trans h1⟩
 have hnb: ∀{v:Value} {xs:List ByteArray},OL e B (λ_=>False) [] w6 v xs->v.ownBlock≠some b:=λhv q=>by
  obtain ⟨es,cl,h1⟩:=hmap;obtain ⟨_,c,h2⟩:=hv.ty q;rw[h1]at h2;injection h2 with h2;cases h2
 have stay: ∀{v:Value} {xs:List ByteArray},OL e B (λ_=>False) [] w6 v xs->OL e B (λ_=>False) [] w7 v xs:=λhv=>
  hv.grown Bf λk hk=>by
   injection hk with hk;subst hk;refine ⟨hnb hv,λq=>?_⟩;rcases q with ⟨q,_⟩|⟨_,t,ht,_⟩
   ·exact q
   ·cases ht
 refine ⟨w7,hrun,⟨hm,λs=>?_,λs s' k hk hk'=>?_⟩,Bf⟩
 ·by_cases hs:s=T
  ·rw[if_pos hs,if_pos hs];exact stay ho
  ·rw[if_neg hs,if_neg hs];refine stay ((h.own s).grown hg λk hk=>⟨λq=>hs (h.sep _ _ k q hk),λq=>?_⟩);rcases q with ⟨q,_⟩|⟨_,t,ht,_⟩
   ·exact q
   ·cases ht
 ·have far: ∀s,s≠T-> ∀k,v6.ownBlock=some k->(f s).ownBlock≠some k:=λs hs k hk q=>by
   rcases hat with e1|⟨j,e1,hj⟩
   ·exact hs (h.sep _ _ k q (e1▸hk))
   ·rw[e1]at hk;injection hk with hk;have:=((h.own s).ty q).2.lt;omega
  by_cases hs:s=T
  ·by_cases hs':s'=T
   ·rw[hs,hs']
   ·rw[if_pos hs]at hk;rw[if_neg hs']at hk';exact absurd hk' (far s' hs' k hk)
  ·by_cases hs':s'=T
   ·rw[if_neg hs]at hk;rw[if_pos hs']at hk';exact absurd hk (far s hs k hk')
   ·rw[if_neg hs]at hk;rw[if_neg hs']at hk';exact h.sep _ _ k hk hk'
end
end Go.Proofs.YtopjjlmfilgngaaGreatDoor
