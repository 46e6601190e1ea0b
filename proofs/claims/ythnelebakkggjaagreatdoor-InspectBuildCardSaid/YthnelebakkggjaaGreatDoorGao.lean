/-
  Maps from strings: the run of a store of a new key and of a look-up. No program is in sight. partition.Split: the partitions of a bag, by ascending day. partition.Replace, warehouseref22.Replace. Plain law: a table of the world fits its columns and its scheme. warehouseworld.Change: a bag of changes that fit the columns.
-/
import Derived.Shelf.SlIterI.Nil
import Derived.Shelf.SortM.Plain
import Derived.Shelf.SortM.SortNone
import Derived.Test.YthnelebakkggjaaGreatDoorGan
namespace Go.Proofs.YthnelebakkggjaaGreatDoor
open Go.RowKit Go.ChangeMaps Go.MapKept
set_option linter.unusedSimpArgs false
set_option linter.unusedVariables false
def qK (w:World)(b:Nat)(es:List (ByteArray×Value)):Prop:=
 ∃arr clock,w.heap[b]?=some (.map arr clock)/\arr.toList.map (λe=>(e.key,e.val))=es.map λp=>(Value.string p.1,p.2)
def mZ (s:ByteArray):List (ByteArray×Value)->Option Value
 | []=>none
 |p::l=>if s.toList==p.1.toList then some p.2 else mZ s l
theorem Fy (a b:ByteArray):(a==b)=(a.toList==b.toList):=by
 rw[ByteArray.toList_eq,ByteArray.toList_eq];obtain⟨a⟩:=a;obtain⟨b⟩:=b;show(a==b)=_;rw[Bool.eq_iff_iff];simp
theorem sW (s:ByteArray): ∀(l:List MapEntry) (es:List (ByteArray×Value)) (i:Nat),l.map (λe=>(e.key,e.val))=es.map (λp=>(Value.string p.1,p.2))->
  ∃r,Instr.findNow .string (.string s) l i=some r/\r.map (·.2)=mZ s es
 | [],[],_,_=>⟨none,rfl,rfl⟩
 | [],p::es,_,h=>by cases h
 |e::l,[],_,h=>by cases h
 |e::l,p::es,i,h=>by
  rw[List.map_cons,List.map_cons]at h;injection h with h1 h2;injection h1 with hk hv;have hs:Instr.sameNow .string (.string s) e.key=some (s.toList==p.1.toList):=by rw[hk];simp only[Instr.sameNow];rw[Fy]
  cases hb:(s.toList==p.1.toList)
  ·obtain⟨r,a,b⟩:=sW s l es (i+1) h2;exact⟨r,by rw[Instr.findNow,hs,hb];exact a,by rw[mZ,hb];exact b⟩
  ·exact⟨some (i,e.val),by rw[Instr.findNow,hs,hb],by rw[mZ,hb,<-hv];rfl⟩
theorem BU (s:ByteArray):IsKey .string (.string s):=by simp[IsKey]
section
variable {P:Program}{t k e:TypeId}{w:World}{c:Nat}{es:List (ByteArray×Value)}
theorem qK.lt (h:qK w c es):c<w.heap.size:=by
 obtain⟨arr,clock,hb,_⟩:=h;exact(Array.getElem?_eq_some_iff.1 hb).1
theorem qK.b (h:qK w c es){w':World}(hb:Below w.heap.size w w'):qK w' c es:=by
 have f:=h.lt;obtain⟨arr,clock,a,d⟩:=h;exact⟨arr,clock,(hb.block c f).trans a,d⟩
theorem qK.made (w:World):qK (w.alloc (.map #[] 0)) w.heap.size []:=⟨#[],0,heap_alloc_new w _,rfl⟩
theorem DT (f:P.underlying t=some (.map k e))(d:P.underlying k=some .string)(h:qK w c es)(s:ByteArray)(z:Value)(g:(zeroValue e).run P w=.ok z w):
  (Instr.lookup t (.map (some c)) (.string s) true).run P w=.ok (.tuple #[(mZ s es).getD z,.bool (mZ s es).isSome]) w/\
  (Instr.lookup t (.map (some c)) (.string s) false).run P w=.ok ((mZ s es).getD z) w:=by
 obtain⟨arr,clock,hb,j⟩:=h;obtain⟨r,l,i⟩:=sW s arr.toList es 0 j;have a:=run_checkKey (w:=w) d (BU s) arr.isEmpty 9999;have b:=run_findKey (w:=w) d l;rw[<-i];cases r with
 |none=>constructor<;>simp[Instr.lookup,Sem.run_bind,run_underlying f,MapKept.run_getObj_map hb,a,b,g,Result.andThen]
 |some p=>constructor<;>simp[Instr.lookup,Sem.run_bind,run_underlying f,MapKept.run_getObj_map hb,a,b,g,Result.andThen]
theorem z8 (m:P.underlying t=some (.map k e))(a:P.underlying k=some .string)(h:qK w c es)(s:ByteArray)(v:Value)(j:mZ s es=none):
  ∃w',(Instr.mapUpdate t (.map (some c)) (.string s) v).run P w=.ok () w'/\qK w' c (es++[(s,v)])/\w.grownBy w' (some c):=by
 obtain⟨arr,clock,hb,d⟩:=h;obtain⟨r,l,b⟩:=sW s arr.toList es 0 d;have f:=run_checkKey (w:=w) a (BU s) false 9999;have g:=run_findKey (w:=w) a l;rw[j]at b;cases r with
 |some p=>cases b
 |none=>
  refine⟨setBlock w c (.map (arr.push {key:=.string s,val:=v,born:=clock}) (clock+1)),?_,⟨_,_,heap_setBlock_same hb _,by simp[d]⟩,⟨rfl,rfl,rfl,by simp[setBlock],λi _ hi=>heap_setBlock_other hb _ (λe=>hi (by rw[e]))⟩⟩;simp[Instr.mapUpdate,Sem.run_bind,run_underlying m,MapKept.run_getObj_map hb,MapKept.run_setObj_map _ hb,f,g,Result.andThen,setBlock]
theorem Jy {α:Type}(a:Array α)(x y:α):(a.push x).setIfInBounds a.size y=a.push y:=by
 apply Array.ext_getElem?;intro i;rw[Array.getElem?_setIfInBounds,Array.getElem?_push,Array.getElem?_push,Array.size_push];by_cases h:a.size=i
 ·subst h;simp
 ·rw[if_neg h,if_neg (λe=>h e.symm),if_neg (λe=>h e.symm)]
theorem l5 (g:P.underlying t=some (.map k e))(a:P.underlying k=some .string)(w:World)(arr:Array MapEntry)(clock:Nat)(s:ByteArray)(v:Value)(f:Instr.findNow .string (.string s) arr.toList 0=some none):
  (Instr.mapUpdate t (.map (some w.heap.size)) (.string s) v).run P (w.alloc (.map arr clock))=.ok () (w.alloc (.map (arr.push {key:=.string s,val:=v,born:=clock}) (clock+1))):=by
 have hb:(w.alloc (.map arr clock)).heap[w.heap.size]?=some (.map arr clock):=heap_alloc_new w _;have b:=run_checkKey (w:=w.alloc (.map arr clock)) a (BU s) false 9999;have d:=run_findKey (w:=w.alloc (.map arr clock)) a f;have hs:({w.alloc (.map arr clock) with heap:=(w.alloc (.map arr clock)).heap.setIfInBounds w.heap.size (.map (arr.push {key:=.string s,val:=v,born:=clock}) (clock+1))}:World)=w.alloc (.map (arr.push {key:=.string s,val:=v,born:=clock}) (clock+1)):=by
  show({w.alloc (.map arr clock) with heap:=(w.heap.push (.map arr clock)).setIfInBounds w.heap.size (.map (arr.push {key:=.string s,val:=v,born:=clock}) (clock+1))}:World)=_;rw[Jy];rfl
 simp[Instr.mapUpdate,Sem.run_bind,run_underlying g,MapKept.run_getObj_map hb,MapKept.run_setObj_map _ hb,b,d,Result.andThen];exact hs
end
open Go.RowKit
def SP (w:World)(k:Nat):Prop:=jQ w 55 k\/jQ w 67 k
theorem SP.lt {w:World}{k:Nat}(h:SP w k):k<w.heap.size:=h.elim jQ.lt jQ.lt
theorem SP.b {w w':World}{k:Nat}(h:SP w k)(hb:Below w.heap.size w w'):SP w' k:=h.imp (λh=>h.b hb) (λh=>h.b hb)
theorem fw.sp {i w:World}{v:Value}{zs:List Ent}(h:fw i w v zs): ∃A c,v=.slice A zs.length c/\Sl w (SP w) A zs.length c zs:=by
 obtain⟨j,a,b⟩:=h;obtain⟨A,c,e,hs,_⟩:=jZ (T:=SP w) a b (λk f=>.inr f.2) rfl (λg _ d=>.inl d);exact⟨A,c,e,hs⟩
theorem zi {xs:List Ent}{m:Int}{zs:List Ent}(h:wE xs m zs):F8 xs=(m,zs):=by
 rw[F8];rcases h with ⟨a,rfl,rfl⟩|⟨a,b⟩
 ·rw[if_pos a]
 ·rw[if_neg (by simpa using a),mE];rcases b with ⟨rfl,h,rfl⟩|⟨rfl,h,rfl⟩
  ·rw[if_pos h]
  ·rw[if_neg (by rw[h];simp)]
theorem DZ {cols:List Col}{x:Ent}(h:En cols x):fB cols x.row=0:=
 DN h.1 λi b a=>by
  have:=h.2.1 i a
  rwa [List.getD_eq_getElem?_getD,List.getD_eq_getElem?_getD,List.getElem?_eq_getElem b,List.getElem?_eq_getElem a]at this
theorem uG {c:Col}{v:Val}(h:iq c v=0):valid v=true:=by
 rw[iq]at h
 split at h
 ·omega
 ·rename_i q;simpa using q
theorem zF {cols:List Col}(a:cols.length<=12){x:Ent}(h:En cols x):gy x=0:=by
 refine nP.2 ⟨by have:=h.2.2;omega,by rw[h.1];exact a,λv b=>?_⟩;obtain⟨i,hi,rfl⟩:=List.mem_iff_getElem.1 b;have:=h.2.1 i (by rw[<-h.1];exact hi);rw[List.getD_eq_getElem?_getD,List.getD_eq_getElem?_getD,List.getElem?_eq_getElem hi]at this;exact uG this.2
theorem Jh {xs:List Ent}:(mE xs).2.length<=xs.length:=by
 rw[mE]
 split
 ·simp
 ·exact x9 (nQ (oo _)) (lw _) λr a=>by
   rw[mh,mq]at a;by_cases g: ∃x∈xs,x.row=r
   ·exact g
   ·exact absurd (lS λx b e=>g ⟨x,b,iG.1 e⟩) a
theorem u6.bag {cols:List Col}(f:cols.length<=12){zs:List Ent}(h:u6 cols zs):fA zs=0/\(∀x∈zs,fB cols x.row=0)/\zs.length<=1000:=by
 obtain⟨xs,q,e,i,j⟩:=h;have g:=zi j;rw[zh λx d=>zF f (e x d)]at g;have a:=xU (xs:=xs) λx d=>zF f (e x d);have b:=uj (P:=λr=>fB cols r=0) (xs:=xs) λx d=>DZ (e x d);have c:=Jh (xs:=xs);rw[g]at a b c;exact⟨a,b,Nat.le_trans c i⟩
structure ChgAt (w W:World) (gb:Nat) (A:Option Addr) (n c:Nat) (l:List Int) (cols:List Col) (v:Value) (xs:List Ent):Prop where
 ol:OL 55 w.heap.size (λk=>k≠gb) [67] W v xs
 ents: ∀x∈xs,fB cols x.row=0
 num: ∃j,Num W gb A n c l j
 grown:w.grownBy W (some gb)
theorem ChgAt.step {w W a:World}{gb:Nat}{A:Option Addr}{n c:Nat}{l:List Int}{cols:List Col}{v:Value}{xs:List Ent}{j:Nat}(h:ChgAt w W gb A n c l cols v xs)(d:gb<w.heap.size)(b:W.grownBy a (some gb))(e:Num a gb A n c l j):ChgAt w a gb A n c l cols v xs:=
 ⟨h.ol.grownN b (λq=>q rfl) d,h.ents,⟨_,e⟩,h.grown.trans b⟩
theorem ChgAt.add {w W b:World}{gb:Nat}{A:Option Addr}{n c:Nat}{l:List Int}{cols:List Col}{v d:Value}{xs:List Ent}{x:Ent}(h:ChgAt w W gb A n c l cols v xs)(e:gb<w.heap.size)(i:fB cols x.row=0)(g:OL 55 w.heap.size (λk=>k≠gb) [67] b d (xs++[x]))(hb:Below w.heap.size W b)(m:W.grownBy b v.ownBlock):ChgAt w b gb A n c l cols d (xs++[x]):=by
 obtain⟨j,f⟩:=h.num;refine⟨g,λy a=>?_,⟨j,f.low hb e⟩,wQ h.grown hb⟩;rcases List.mem_append.1 a with a|a
 ·exact h.ents y a
 ·simp at a;subst a;exact i
theorem Off.entO {w:World}{gb:Nat}{A:Option Addr}{n c k:Nat}{xs:List Ent}(h:Off w gb A n c xs)(g:k<n): ∃b off x,A=some ⟨b,off,none⟩/\(b<w.heap.size/\b≠gb)/\Hl (xs.drop k=x::xs.drop (k+1))/\
  ∃A' n' c',w.cell? ⟨b,off+k*2,none⟩=some (.slice A' n' c')/\w.cell? ⟨b,off+k*2+1,none⟩=some (.int .i64 x.count)/\Off w gb A' n' c' x.row/\jP x.count:=by
 obtain⟨b,off,e,f,hi⟩:=h.2.2.2.2 Ho;have d:k<xs.length:=by rw[h.1];exact g
 obtain⟨j,⟨A',n',c',rfl,hs,i⟩,a⟩:=hi k d;exact⟨b,off,xs[k],e,f,Hm (List.drop_eq_getElem_cons d),A',n',c',a 0 II,a 1 II,hs,i⟩
theorem Nn {w W:World}{gb:Nat}{A:Option Addr}{n c:Nat}{α:Type}[Rep α]{xs:List α}{T:List TypeId}(h:Off w gb A n c xs)(b:w.grownBy W (some gb)):Sl W (BS w.heap.size (λk=>k≠gb) T W) A n c xs:=
 (h.keep λk (a:k<w.heap.size/\k≠gb)=>b.block k a.1 (λe=>a.2 (by injection e))).mono λk a=>.inl ⟨a.2,a.1⟩
theorem Ck {w w':World}{row:Option Nat}(h:w.drew.grownBy w' row):w.grownBy w' row:=(Below.grows ((Below.refl _ w).drew) row).trans h
end Go.Proofs.YthnelebakkggjaaGreatDoor
