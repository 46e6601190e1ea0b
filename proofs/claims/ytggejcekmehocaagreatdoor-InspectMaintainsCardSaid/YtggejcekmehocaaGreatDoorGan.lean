/-
  Maps from strings: the run of a store of a new key and of a look-up. No program is in sight. partition.Split: the partitions of a bag, by ascending day. partition.Replace, warehouseref22.Replace. Plain law: a table of the world fits its columns and its scheme. warehouseworld.Change: a bag of changes that fit the columns.
-/
import Derived.Maps.Own
import Derived.Maps.OwnOps
import Derived.Lib.SlKeysI
import Derived.Shelf.SlIterI.Nil
import Derived.Shelf.SortM.Plain
import Derived.Shelf.SortM.SortNone
import Derived.Test.YtggejcekmehocaaGreatDoorProg
import Derived.Test.YtggejcekmehocaaGreatDoorGac
import Derived.Test.YtggejcekmehocaaGreatDoorGal
import Derived.Test.YtggejcekmehocaaGreatDoorGak
import Derived.Test.YtggejcekmehocaaGreatDoorGaj
import Derived.Test.YtggejcekmehocaaGreatDoorGae
import Derived.Test.YtggejcekmehocaaGreatDoorGah
import Derived.Test.YtggejcekmehocaaGreatDoorGaa
import Derived.Test.YtggejcekmehocaaGreatDoorGam
import Derived.Test.YtggejcekmehocaaGreatDoorGad
namespace Go.Proofs.YtggejcekmehocaaGreatDoor
open Go.RowKit Go.ChangeMaps Go.MapKept
set_option linter.unusedSimpArgs false
set_option linter.unusedVariables false
def oG (w:World)(b:Nat)(es:List (ByteArray×Value)):Prop:=
 ∃arr clock,w.heap[b]?=some (.map arr clock)/\arr.toList.map (λe=>(e.key,e.val))=es.map λp=>(Value.string p.1,p.2)
def jV (s:ByteArray):List (ByteArray×Value)->Option Value
 | []=>none
 |p :: l=>if s.toList==p.1.toList then some p.2 else jV s l
theorem G8 (a b:ByteArray):(a==b)=(a.toList==b.toList):=by
 rw[ByteArray.toList_eq,ByteArray.toList_eq];obtain ⟨a⟩:=a;obtain ⟨b⟩:=b;show (a==b)=_;rw[Bool.eq_iff_iff];simp
theorem rH (s:ByteArray): ∀(l:List MapEntry) (es:List (ByteArray×Value)) (i:Nat),l.map (λe=>(e.key,e.val))=es.map (λp=>(Value.string p.1,p.2))->
  ∃r,Instr.findNow .string (.string s) l i=some r/\r.map (·.2)=jV s es
 | [],[],_,_=>⟨none,rfl,rfl⟩
 | [],p :: es,_,h=>by cases h
 |e :: l,[],_,h=>by cases h
 |e :: l,p :: es,i,h=>by
  rw[List.map_cons,List.map_cons]at h;injection h with h1 h2;injection h1 with hk hv;have hs:Instr.sameNow .string (.string s) e.key=some (s.toList==p.1.toList):=by rw[hk];simp only[Instr.sameNow];rw[G8]
  cases hb:(s.toList==p.1.toList)
  ·obtain ⟨r,h3,h4⟩:=rH s l es (i+1) h2;exact ⟨r,by rw[Instr.findNow,hs,hb];exact h3,by rw[jV,hb];exact h4⟩
  ·exact ⟨some (i,e.val),by rw[Instr.findNow,hs,hb],by rw[jV,hb,<-hv];rfl⟩
theorem Dh (s:ByteArray):IsKey .string (.string s):=by simp[IsKey]
section
variable {P:Program}{t k e:TypeId}{w:World}{b:Nat}{es:List (ByteArray×Value)}
theorem oG.lt (h:oG w b es):b<w.heap.size:=by
 obtain ⟨arr,clock,hb,_⟩:=h;exact (Array.getElem?_eq_some_iff.1 hb).1
theorem oG.below (h:oG w b es){w':World}(hb:Below w.heap.size w w'):oG w' b es:=by
 have hl:=h.lt;obtain ⟨arr,clock,h1,h2⟩:=h;exact ⟨arr,clock,(hb.block b hl).trans h1,h2⟩
theorem oG.made (w:World):oG (w.alloc (.map #[] 0)) w.heap.size []:=⟨#[],0,heap_alloc_new w _,rfl⟩
theorem Fs (ht:P.underlying t=some (.map k e))(hk:P.underlying k=some .string)(h:oG w b es)(s:ByteArray)(z:Value)(hz:(zeroValue e).run P w=.ok z w):
  (Instr.lookup t (.map (some b)) (.string s) true).run P w=.ok (.tuple #[(jV s es).getD z,.bool (jV s es).isSome]) w/\
  (Instr.lookup t (.map (some b)) (.string s) false).run P w=.ok ((jV s es).getD z) w:=by
 obtain ⟨arr,clock,hb,hm⟩:=h;obtain ⟨r,hr,hl⟩:=rH s arr.toList es 0 hm;have hc:=run_checkKey (w:=w) hk (Dh s) arr.isEmpty 9999;have hf:=run_findKey (w:=w) hk hr;rw[<-hl];cases r with
 |none=>constructor <;> simp[Instr.lookup,Sem.run_bind,run_underlying ht,MapKept.run_getObj_map hb,hc,hf,hz,Result.andThen]
 |some p=>constructor <;> simp[Instr.lookup,Sem.run_bind,run_underlying ht,MapKept.run_getObj_map hb,hc,hf,hz,Result.andThen]
theorem AX (ht:P.underlying t=some (.map k e))(hk:P.underlying k=some .string)(h:oG w b es)(s:ByteArray)(v:Value)(hn:jV s es=none):
  ∃w',(Instr.mapUpdate t (.map (some b)) (.string s) v).run P w=.ok () w'/\oG w' b (es++[(s,v)])/\w.grownBy w' (some b):=by
 obtain ⟨arr,clock,hb,hm⟩:=h;obtain ⟨r,hr,hl⟩:=rH s arr.toList es 0 hm;have hc:=run_checkKey (w:=w) hk (Dh s) false 9999;have hf:=run_findKey (w:=w) hk hr;rw[hn]at hl;cases r with
 |some p=>cases hl
 |none=>
  refine ⟨setBlock w b (.map (arr.push {key:=.string s,val:=v,born:=clock}) (clock+1)),?_,⟨_,_,heap_setBlock_same hb _,by simp[hm]⟩,⟨rfl,rfl,rfl,by simp[setBlock],λi _ hi=>heap_setBlock_other hb _ (λe=>hi (by rw[e]))⟩⟩;simp[Instr.mapUpdate,Sem.run_bind,run_underlying ht,MapKept.run_getObj_map hb,MapKept.run_setObj_map _ hb,hc,hf,Result.andThen,setBlock]
theorem MZ {α:Type}(a:Array α)(x y:α):(a.push x).setIfInBounds a.size y=a.push y:=by
 apply Array.ext_getElem?;intro i;rw[Array.getElem?_setIfInBounds,Array.getElem?_push,Array.getElem?_push,Array.size_push];by_cases h:a.size=i
 ·subst h;simp
 ·rw[if_neg h,if_neg (λe=>h e.symm),if_neg (λe=>h e.symm)]
theorem iR (ht:P.underlying t=some (.map k e))(hk:P.underlying k=some .string)(w:World)(arr:Array MapEntry)(clock:Nat)(s:ByteArray)(v:Value)(hn:Instr.findNow .string (.string s) arr.toList 0=some none):
  (Instr.mapUpdate t (.map (some w.heap.size)) (.string s) v).run P (w.alloc (.map arr clock))=.ok () (w.alloc (.map (arr.push {key:=.string s,val:=v,born:=clock}) (clock+1))):=by
 have hb:(w.alloc (.map arr clock)).heap[w.heap.size]?=some (.map arr clock):=heap_alloc_new w _;have hc:=run_checkKey (w:=w.alloc (.map arr clock)) hk (Dh s) false 9999;have hf:=run_findKey (w:=w.alloc (.map arr clock)) hk hn;have hs:({w.alloc (.map arr clock) with heap:=(w.alloc (.map arr clock)).heap.setIfInBounds w.heap.size (.map (arr.push {key:=.string s,val:=v,born:=clock}) (clock+1))}:World)=w.alloc (.map (arr.push {key:=.string s,val:=v,born:=clock}) (clock+1)):=by
  show ({w.alloc (.map arr clock) with heap:=(w.heap.push (.map arr clock)).setIfInBounds w.heap.size (.map (arr.push {key:=.string s,val:=v,born:=clock}) (clock+1))}:World)=_;rw[MZ];rfl
 simp[Instr.mapUpdate,Sem.run_bind,run_underlying ht,MapKept.run_getObj_map hb,MapKept.run_setObj_map _ hb,hc,hf,Result.andThen];exact hs
end
open Go.RowKit
def SP (w:World)(k:Nat):Prop:=eP w 61 k\/eP w 74 k
theorem SP.lt {w:World}{k:Nat}(h:SP w k):k<w.heap.size:=h.elim eP.lt eP.lt
theorem SP.below {w w':World}{k:Nat}(h:SP w k)(hb:Below w.heap.size w w'):SP w' k:=h.imp (λh=>h.below hb) (λh=>h.below hb)
theorem aB.sp {w0 w:World}{v:Value}{zs:List Ent}(h:aB w0 w v zs): ∃A c,v=.slice A zs.length c/\Sl w (SP w) A zs.length c zs:=by
 obtain ⟨cs,h1,h2⟩:=h;obtain ⟨A,c,e,hs,_⟩:=fE (T:=SP w) h1 h2 (λk hk=>.inr hk.2) rfl (λg _ hg=>.inl hg);exact ⟨A,c,e,hs⟩
theorem zJ {xs:List Ent}{m:Int}{zs:List Ent}(h:wE xs m zs):IE xs=(m,zs):=by
 rw[IE];rcases h with ⟨h1,rfl,rfl⟩|⟨h1,h2⟩
 ·rw[if_pos h1]
 ·rw[if_neg (by simpa using h1),jm];rcases h2 with ⟨rfl,h,rfl⟩|⟨rfl,h,rfl⟩
  ·rw[if_pos h]
  ·rw[if_neg (by rw[h];simp)]
theorem Fz {cols:List Col}{x:Ent}(h:Ga cols x):aC cols x.row=0:=
 Fp h.1 λi h1 h2=>by
  have:=h.2.1 i h2
  rwa [List.getD_eq_getElem?_getD,List.getD_eq_getElem?_getD,List.getElem?_eq_getElem h1,List.getElem?_eq_getElem h2]at this
theorem tT {c:Col}{v:Val}(h:bI c v=0):valid v=true:=by
 rw[bI]at h
 split at h
 ·omega
 ·rename_i q;simpa using q
theorem zZ {cols:List Col}(hl:cols.length<=12){x:Ent}(h:Ga cols x):aQ x=0:=by
 refine kS.2 ⟨by have:=h.2.2;omega,by rw[h.1];exact hl,λv hv=>?_⟩;obtain ⟨i,hi,rfl⟩:=List.mem_iff_getElem.1 hv;have:=h.2.1 i (by rw[<-h.1];exact hi);rw[List.getD_eq_getElem?_getD,List.getD_eq_getElem?_getD,List.getElem?_eq_getElem hi]at this;exact tT this.2
theorem MF {xs:List Ent}:(jm xs).2.length<=xs.length:=by
 rw[jm]
 split
 ·simp
 ·exact yA (kW (lv _)) (gW _) λr hr=>by
   rw[je,jh]at hr;by_cases g: ∃x∈xs,x.row=r
   ·exact g
   ·exact absurd (iH λx hx e=>g ⟨x,hx,bV.1 e⟩) hr
theorem uQ.bag {cols:List Col}(hl:cols.length<=12){zs:List Ent}(h:uQ cols zs):ay zs=0/\(∀x∈zs,aC cols x.row=0)/\zs.length<=1000:=by
 obtain ⟨xs,q,h1,h2,h3⟩:=h;have hn:=zJ h3;rw[zI λx hx=>zZ hl (h1 x hx)]at hn;have a:=bagS_ok (xs:=xs) λx hx=>zZ hl (h1 x hx);have b:=sG (P:=λr=>aC cols r=0) (xs:=xs) λx hx=>Fz (h1 x hx);have c:=MF (xs:=xs);rw[hn]at a b c;exact ⟨a,b,Nat.le_trans c h2⟩
structure ChgAt (w W:World) (gb:Nat) (A:Option Addr) (n c:Nat) (l:List Int) (cols:List Col) (v:Value) (xs:List Ent):Prop where
 ol:OL 61 w.heap.size (λk=>k≠gb) [74] W v xs
 ents: ∀x∈xs,aC cols x.row=0
 num: ∃j,Num W gb A n c l j
 grown:w.grownBy W (some gb)
theorem ChgAt.step {w W W':World}{gb:Nat}{A:Option Addr}{n c:Nat}{l:List Int}{cols:List Col}{v:Value}{xs:List Ent}{j:Nat}(h:ChgAt w W gb A n c l cols v xs)(hgb:gb<w.heap.size)(hg:W.grownBy W' (some gb))(hn:Num W' gb A n c l j):ChgAt w W' gb A n c l cols v xs:=
 ⟨h.ol.grownN hg (λq=>q rfl) hgb,h.ents,⟨_,hn⟩,h.grown.trans hg⟩
theorem ChgAt.add {w W W':World}{gb:Nat}{A:Option Addr}{n c:Nat}{l:List Int}{cols:List Col}{v v':Value}{xs:List Ent}{x:Ent}(h:ChgAt w W gb A n c l cols v xs)(hgb:gb<w.heap.size)(hr:aC cols x.row=0)(ho:OL 61 w.heap.size (λk=>k≠gb) [74] W' v' (xs++[x]))(hb:Below w.heap.size W W')(hg:W.grownBy W' v.ownBlock):ChgAt w W' gb A n c l cols v' (xs++[x]):=by
 obtain ⟨j,hn⟩:=h.num;refine ⟨ho,λy hy=>?_,⟨j,hn.low hb hgb⟩,wT h.grown hb⟩;rcases List.mem_append.1 hy with hy|hy
 ·exact h.ents y hy
 ·simp at hy;subst hy;exact hr
theorem Off.entO {w:World}{gb:Nat}{A:Option Addr}{n c k:Nat}{xs:List Ent}(h:Off w gb A n c xs)(hk:k<n): ∃b off x,A=some ⟨b,off,none⟩/\(b<w.heap.size/\b≠gb)/\Hid (xs.drop k=x :: xs.drop (k+1))/\
  ∃A' n' c',w.cell? ⟨b,off+k*2,none⟩=some (.slice A' n' c')/\w.cell? ⟨b,off+k*2+1,none⟩=some (.int .i64 x.count)/\Off w gb A' n' c' x.row/\fP x.count:=by
 obtain ⟨b,off,e,hS,hi⟩:=h.2.2.2.2 (by omega);have hkl:k<xs.length:=by rw[h.1];exact hk
 obtain ⟨cs,⟨A',n',c',rfl,hs,hv⟩,hc⟩:=hi k hkl;exact ⟨b,off,xs[k],e,hS,hide (List.drop_eq_getElem_cons hkl),A',n',c',hc 0 (by simp),hc 1 (by simp),hs,hv⟩
theorem U2 {w W:World}{gb:Nat}{A:Option Addr}{n c:Nat}{α:Type}[Rep α]{xs:List α}{T:List TypeId}(h:Off w gb A n c xs)(hg:w.grownBy W (some gb)):Sl W (BS w.heap.size (λk=>k≠gb) T W) A n c xs:=
 (h.keep λk (hk:k<w.heap.size/\k≠gb)=>hg.block k hk.1 (λe=>hk.2 (by injection e))).mono λk hk=>.inl ⟨hk.2,hk.1⟩
theorem Dx {w w':World}{row:Option Nat}(h:w.drew.grownBy w' row):w.grownBy w' row:=(Below.grows ((Below.refl _ w).drew) row).trans h
end Go.Proofs.YtggejcekmehocaaGreatDoor
