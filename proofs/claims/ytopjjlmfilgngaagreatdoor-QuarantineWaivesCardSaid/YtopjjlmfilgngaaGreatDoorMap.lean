/-
  Maps from strings: the run of a store of a new key and of a look-up. No program is in sight.
-/
import Derived.Maps.Own
import Derived.Maps.OwnOps
import Derived.Test.YtopjjlmfilgngaaGreatDoorGac
namespace Go.Proofs.YtopjjlmfilgngaaGreatDoor
open Go.RowKit Go.ChangeMaps Go.MapKept
set_option linter.unusedSimpArgs false
set_option linter.unusedVariables false
def nS (w:World)(b:Nat)(es:List (ByteArray×Value)):Prop:=
 ∃arr clock,w.heap[b]?=some (.map arr clock)/\arr.toList.map (λe=>(e.key,e.val))=es.map λp=>(Value.string p.1,p.2)
def jV (s:ByteArray):List (ByteArray×Value)->Option Value
 | []=>none
 |p :: l=>if s.toList==p.1.toList then some p.2 else jV s l
theorem Iq (a b:ByteArray):(a==b)=(a.toList==b.toList):=by
 rw[ByteArray.toList_eq,ByteArray.toList_eq];obtain ⟨a⟩:=a;obtain ⟨b⟩:=b;show (a==b)=_;rw[Bool.eq_iff_iff];simp
theorem qZ (s:ByteArray): ∀(l:List MapEntry) (es:List (ByteArray×Value)) (i:Nat),l.map (λe=>(e.key,e.val))=es.map (λp=>(Value.string p.1,p.2))->
  ∃r,Instr.findNow .string (.string s) l i=some r/\r.map (·.2)=jV s es
 | [],[],_,_=>⟨none,rfl,rfl⟩
 | [],p :: es,_,h=>by cases h
 |e :: l,[],_,h=>by cases h
 |e :: l,p :: es,i,h=>by
  rw[List.map_cons,List.map_cons]at h;injection h with h1 h2;injection h1 with hk hv;have hs:Instr.sameNow .string (.string s) e.key=some (s.toList==p.1.toList):=by rw[hk];simp only[Instr.sameNow];rw[Iq]
  cases hb:(s.toList==p.1.toList)
  ·obtain ⟨r,h3,h4⟩:=qZ s l es (i+1) h2;exact ⟨r,by rw[Instr.findNow,hs,hb];exact h3,by rw[jV,hb];exact h4⟩
  ·exact ⟨some (i,e.val),by rw[Instr.findNow,hs,hb],by rw[jV,hb,<-hv];rfl⟩
theorem DJ (s:ByteArray):IsKey .string (.string s):=by simp[IsKey]
section
variable {P:Program}{t k e:TypeId}{w:World}{b:Nat}{es:List (ByteArray×Value)}
theorem nS.lt (h:nS w b es):b<w.heap.size:=by
 obtain ⟨arr,clock,hb,_⟩:=h;exact (Array.getElem?_eq_some_iff.1 hb).1
theorem nS.below (h:nS w b es){w':World}(hb:Below w.heap.size w w'):nS w' b es:=by
 have hl:=h.lt;obtain ⟨arr,clock,h1,h2⟩:=h;exact ⟨arr,clock,(hb.block b hl).trans h1,h2⟩
theorem nS.made (w:World):nS (w.alloc (.map #[] 0)) w.heap.size []:=⟨#[],0,heap_alloc_new w _,rfl⟩
theorem F7 (ht:P.underlying t=some (.map k e))(hk:P.underlying k=some .string)(h:nS w b es)(s:ByteArray)(z:Value)(hz:(zeroValue e).run P w=.ok z w):
  (Instr.lookup t (.map (some b)) (.string s) true).run P w=.ok (.tuple #[(jV s es).getD z,.bool (jV s es).isSome]) w/\
  (Instr.lookup t (.map (some b)) (.string s) false).run P w=.ok ((jV s es).getD z) w:=by
 obtain ⟨arr,clock,hb,hm⟩:=h;obtain ⟨r,hr,hl⟩:=qZ s arr.toList es 0 hm;have hc:=run_checkKey (w:=w) hk (DJ s) arr.isEmpty 9999;have hf:=run_findKey (w:=w) hk hr;rw[<-hl];cases r with
 |none=>constructor <;> simp[Instr.lookup,Sem.run_bind,run_underlying ht,MapKept.run_getObj_map hb,hc,hf,hz,Result.andThen]
 |some p=>constructor <;> simp[Instr.lookup,Sem.run_bind,run_underlying ht,MapKept.run_getObj_map hb,hc,hf,hz,Result.andThen]
theorem BA (ht:P.underlying t=some (.map k e))(hk:P.underlying k=some .string)(h:nS w b es)(s:ByteArray)(v:Value)(hn:jV s es=none):
  ∃w',(Instr.mapUpdate t (.map (some b)) (.string s) v).run P w=.ok () w'/\nS w' b (es++[(s,v)])/\w.grownBy w' (some b):=by
 obtain ⟨arr,clock,hb,hm⟩:=h;obtain ⟨r,hr,hl⟩:=qZ s arr.toList es 0 hm;have hc:=run_checkKey (w:=w) hk (DJ s) false 9999;have hf:=run_findKey (w:=w) hk hr;rw[hn]at hl;cases r with
 |some p=>cases hl
 |none=>
  refine ⟨setBlock w b (.map (arr.push {key:=.string s,val:=v,born:=clock}) (clock+1)),?_,⟨_,_,heap_setBlock_same hb _,by simp[hm]⟩,⟨rfl,rfl,rfl,by simp[setBlock],λi _ hi=>heap_setBlock_other hb _ (λe=>hi (by rw[e]))⟩⟩;simp[Instr.mapUpdate,Sem.run_bind,run_underlying ht,MapKept.run_getObj_map hb,MapKept.run_setObj_map _ hb,hc,hf,Result.andThen,setBlock]
theorem Oz {α:Type}(a:Array α)(x y:α):(a.push x).setIfInBounds a.size y=a.push y:=by
 apply Array.ext_getElem?;intro i;rw[Array.getElem?_setIfInBounds,Array.getElem?_push,Array.getElem?_push,Array.size_push];by_cases h:a.size=i
 ·subst h;simp
 ·rw[if_neg h,if_neg (λe=>h e.symm),if_neg (λe=>h e.symm)]
theorem jd (ht:P.underlying t=some (.map k e))(hk:P.underlying k=some .string)(w:World)(arr:Array MapEntry)(clock:Nat)(s:ByteArray)(v:Value)(hn:Instr.findNow .string (.string s) arr.toList 0=some none):
  (Instr.mapUpdate t (.map (some w.heap.size)) (.string s) v).run P (w.alloc (.map arr clock))=.ok () (w.alloc (.map (arr.push {key:=.string s,val:=v,born:=clock}) (clock+1))):=by
 have hb:(w.alloc (.map arr clock)).heap[w.heap.size]?=some (.map arr clock):=heap_alloc_new w _;have hc:=run_checkKey (w:=w.alloc (.map arr clock)) hk (DJ s) false 9999;have hf:=run_findKey (w:=w.alloc (.map arr clock)) hk hn;have hs:({w.alloc (.map arr clock) with heap:=(w.alloc (.map arr clock)).heap.setIfInBounds w.heap.size (.map (arr.push {key:=.string s,val:=v,born:=clock}) (clock+1))}:World)=w.alloc (.map (arr.push {key:=.string s,val:=v,born:=clock}) (clock+1)):=by
  show ({w.alloc (.map arr clock) with heap:=(w.heap.push (.map arr clock)).setIfInBounds w.heap.size (.map (arr.push {key:=.string s,val:=v,born:=clock}) (clock+1))}:World)=_;rw[Oz];rfl
 simp[Instr.mapUpdate,Sem.run_bind,run_underlying ht,MapKept.run_getObj_map hb,MapKept.run_setObj_map _ hb,hc,hf,Result.andThen];exact hs
end
end Go.Proofs.YtopjjlmfilgngaaGreatDoor
