/-
  Maps from strings: the run of a store of a new key and of a look-up. No program is in sight. partition.Split: the partitions of a bag, by ascending day. partition.Replace, warehouseref22.Replace. Plain law: a table of the world fits its columns and its scheme. warehouseworld.Columns at a number; Table as lists; facts that a write to the numbers does not touch. expr.shaped and warehouseref8.formed: both return shaped. expr.shaped at a call; expr.shaped whole; warehouseref8.formed.
-/
import Derived.Shelf.SlIterI.Nil
import Derived.Shelf.SortM.Plain
import Derived.Shelf.SortM.SortNone
import Derived.Test.YtopjjlmfilgngaaGreatDoorGam
import Derived.Test.YtopjjlmfilgngaaGreatDoorGag
namespace Go.Proofs.YtopjjlmfilgngaaGreatDoor
set_option maxHeartbeats 2000000
set_option maxRecDepth 100000
open Go.RowKit Go.ChangeMaps Go.MapKept
set_option linter.unusedSimpArgs false
set_option linter.unusedVariables false
def qL (w:World)(b:Nat)(es:List (ByteArray×Value)):Prop:=
 ∃arr clock,w.heap[b]?=some (.map arr clock)/\arr.toList.map (λe=>(e.key,e.val))=es.map λp=>(Value.string p.1,p.2)
def nD (s:ByteArray):List (ByteArray×Value)->Option Value
 | []=>none
 |p::l=>if s.toList==p.1.toList then some p.2 else nD s l
theorem Gy (a b:ByteArray):(a==b)=(a.toList==b.toList):=by
 rw[ByteArray.toList_eq,ByteArray.toList_eq];obtain⟨a⟩:=a;obtain⟨b⟩:=b;show(a==b)=_;rw[Bool.eq_iff_iff];simp
theorem tN (s:ByteArray): ∀(l:List MapEntry) (es:List (ByteArray×Value)) (i:Nat),l.map (λe=>(e.key,e.val))=es.map (λp=>(Value.string p.1,p.2))->
  ∃r,Instr.findNow .string (.string s) l i=some r/\r.map (·.2)=nD s es
 | [],[],_,_=>⟨none,rfl,rfl⟩
 | [],p::es,_,h=>by cases h
 |e::l,[],_,h=>by cases h
 |e::l,p::es,i,h=>by
  rw[List.map_cons,List.map_cons]at h;injection h with h1 h2;injection h1 with hk hv;have hs:Instr.sameNow .string (.string s) e.key=some (s.toList==p.1.toList):=by rw[hk];simp only[Instr.sameNow];rw[Gy]
  cases hb:(s.toList==p.1.toList)
  ·obtain⟨r,a,b⟩:=tN s l es (i+1) h2;exact⟨r,by rw[Instr.findNow,hs,hb];exact a,by rw[nD,hb];exact b⟩
  ·exact⟨some (i,e.val),by rw[Instr.findNow,hs,hb],by rw[nD,hb,<-hv];rfl⟩
theorem CV (s:ByteArray):IsKey .string (.string s):=by simp[IsKey]
section
variable {P:Program}{t k e:TypeId}{w:World}{b:Nat}{es:List (ByteArray×Value)}
theorem qL.lt (h:qL w b es):b<w.heap.size:=by
 obtain⟨arr,clock,hb,_⟩:=h;exact(Array.getElem?_eq_some_iff.1 hb).1
theorem qL.below (h:qL w b es){w':World}(hb:Below w.heap.size w w'):qL w' b es:=by
 have d:=h.lt;obtain⟨arr,clock,a,c⟩:=h;exact⟨arr,clock,(hb.block b d).trans a,c⟩
theorem qL.made (w:World):qL (w.alloc (.map #[] 0)) w.heap.size []:=⟨#[],0,heap_alloc_new w _,rfl⟩
theorem ES (f:P.underlying t=some (.map k e))(d:P.underlying k=some .string)(h:qL w b es)(s:ByteArray)(z:Value)(g:(zeroValue e).run P w=.ok z w):
  (Instr.lookup t (.map (some b)) (.string s) true).run P w=.ok (.tuple #[(nD s es).getD z,.bool (nD s es).isSome]) w/\
  (Instr.lookup t (.map (some b)) (.string s) false).run P w=.ok ((nD s es).getD z) w:=by
 obtain⟨arr,clock,hb,j⟩:=h;obtain⟨r,l,i⟩:=tN s arr.toList es 0 j;have a:=run_checkKey (w:=w) d (CV s) arr.isEmpty 9999;have c:=run_findKey (w:=w) d l;rw[<-i];cases r with
 |none=>constructor<;>simp[Instr.lookup,Sem.run_bind,run_underlying f,MapKept.run_getObj_map hb,a,c,g,Result.andThen]
 |some p=>constructor<;>simp[Instr.lookup,Sem.run_bind,run_underlying f,MapKept.run_getObj_map hb,a,c,g,Result.andThen]
theorem AV (m:P.underlying t=some (.map k e))(a:P.underlying k=some .string)(h:qL w b es)(s:ByteArray)(v:Value)(j:nD s es=none):
  ∃w',(Instr.mapUpdate t (.map (some b)) (.string s) v).run P w=.ok () w'/\qL w' b (es++[(s,v)])/\w.grownBy w' (some b):=by
 obtain⟨arr,clock,hb,d⟩:=h;obtain⟨r,l,c⟩:=tN s arr.toList es 0 d;have f:=run_checkKey (w:=w) a (CV s) false 9999;have g:=run_findKey (w:=w) a l;rw[j]at c;cases r with
 |some p=>cases c
 |none=>
  refine⟨setBlock w b (.map (arr.push {key:=.string s,val:=v,born:=clock}) (clock+1)),?_,⟨_,_,heap_setBlock_same hb _,by simp[d]⟩,⟨rfl,rfl,rfl,by simp[setBlock],λi _ hi=>heap_setBlock_other hb _ (λe=>hi (by rw[e]))⟩⟩;simp[Instr.mapUpdate,Sem.run_bind,run_underlying m,MapKept.run_getObj_map hb,MapKept.run_setObj_map _ hb,f,g,Result.andThen,setBlock]
theorem LQ {α:Type}(a:Array α)(x y:α):(a.push x).setIfInBounds a.size y=a.push y:=by
 apply Array.ext_getElem?;intro i;rw[Array.getElem?_setIfInBounds,Array.getElem?_push,Array.getElem?_push,Array.size_push];by_cases h:a.size=i
 ·subst h;simp
 ·rw[if_neg h,if_neg (λe=>h e.symm),if_neg (λe=>h e.symm)]
theorem l9 (g:P.underlying t=some (.map k e))(a:P.underlying k=some .string)(w:World)(arr:Array MapEntry)(clock:Nat)(s:ByteArray)(v:Value)(f:Instr.findNow .string (.string s) arr.toList 0=some none):
  (Instr.mapUpdate t (.map (some w.heap.size)) (.string s) v).run P (w.alloc (.map arr clock))=.ok () (w.alloc (.map (arr.push {key:=.string s,val:=v,born:=clock}) (clock+1))):=by
 have hb:(w.alloc (.map arr clock)).heap[w.heap.size]?=some (.map arr clock):=heap_alloc_new w _;have c:=run_checkKey (w:=w.alloc (.map arr clock)) a (CV s) false 9999;have d:=run_findKey (w:=w.alloc (.map arr clock)) a f;have hs:({w.alloc (.map arr clock) with heap:=(w.alloc (.map arr clock)).heap.setIfInBounds w.heap.size (.map (arr.push {key:=.string s,val:=v,born:=clock}) (clock+1))}:World)=w.alloc (.map (arr.push {key:=.string s,val:=v,born:=clock}) (clock+1)):=by
  show({w.alloc (.map arr clock) with heap:=(w.heap.push (.map arr clock)).setIfInBounds w.heap.size (.map (arr.push {key:=.string s,val:=v,born:=clock}) (clock+1))}:World)=_;rw[LQ];rfl
 simp[Instr.mapUpdate,Sem.run_bind,run_underlying g,MapKept.run_getObj_map hb,MapKept.run_setObj_map _ hb,c,d,Result.andThen];exact hs
end
open Go.RowKit
def SP (w:World)(k:Nat):Prop:=iF w 50 k\/iF w 36 k
theorem SP.lt {w:World}{k:Nat}(h:SP w k):k<w.heap.size:=h.elim iF.lt iF.lt
theorem SP.below {w w':World}{k:Nat}(h:SP w k)(hb:Below w.heap.size w w'):SP w' k:=h.imp (λh=>h.below hb) (λh=>h.below hb)
theorem gz.sp {i w:World}{v:Value}{zs:List Ent}(h:gz i w v zs): ∃A c,v=.slice A zs.length c/\Sl w (SP w) A zs.length c zs:=by
 obtain⟨j,a,b⟩:=h;obtain⟨A,c,e,hs,_⟩:=kU (T:=SP w) a b (λk f=>.inr f.2) rfl (λg _ d=>.inl d);exact⟨A,c,e,hs⟩
theorem zB {xs:List Ent}{m:Int}{zs:List Ent}(h:yJ xs m zs):H7 xs=(m,zs):=by
 rw[H7];rcases h with ⟨a,rfl,rfl⟩|⟨a,b⟩
 ·rw[if_pos a]
 ·rw[if_neg (by simpa using a),rU];rcases b with ⟨rfl,h,rfl⟩|⟨rfl,h,rfl⟩
  ·rw[if_pos h]
  ·rw[if_neg (by rw[h];simp)]
theorem Mh {cols:List Col}{x:Ent}(h:Fu cols x):gF cols x.row=0:=
 ER h.1 λi b a=>by
  have:=h.2.1 i a
  rwa [List.getD_eq_getElem?_getD,List.getD_eq_getElem?_getD,List.getElem?_eq_getElem b,List.getElem?_eq_getElem a]at this
theorem uZ {c:Col}{v:Val}(h:ja c v=0):valid v=true:=by
 rw[ja]at h
 split at h
 ·omega
 ·rename_i q;simpa using q
theorem zT {cols:List Col}(a:cols.length<=12){x:Ent}(h:Fu cols x):ib x=0:=by
 refine sj.2 ⟨by have:=h.2.2;omega,by rw[h.1];exact a,λv b=>?_⟩;obtain⟨i,hi,rfl⟩:=List.mem_iff_getElem.1 b;have:=h.2.1 i (by rw[<-h.1];exact hi);rw[List.getD_eq_getElem?_getD,List.getD_eq_getElem?_getD,List.getElem?_eq_getElem hi]at this;exact uZ this.2
theorem Lc {xs:List Ent}:(rU xs).2.length<=xs.length:=by
 rw[rU]
 split
 ·simp
 ·exact CW (uH (uM _)) (pO _) λr a=>by
   rw[rC,rJ]at a;by_cases g: ∃x∈xs,x.row=r
   ·exact g
   ·exact absurd (lu λx b e=>g ⟨x,b,jd.1 e⟩) a
theorem uX.bag {cols:List Col}(f:cols.length<=12){zs:List Ent}(h:uX cols zs):gN zs=0/\(∀x∈zs,gF cols x.row=0)/\zs.length<=1000:=by
 obtain⟨xs,q,e,i,j⟩:=h;have g:=zB j;rw[zA λx d=>zT f (e x d)]at g;have a:=Cr (xs:=xs) λx d=>zT f (e x d);have b:=wV (P:=λr=>gF cols r=0) (xs:=xs) λx d=>Mh (e x d);have c:=Lc (xs:=xs);rw[g]at a b c;exact⟨a,b,Nat.le_trans c i⟩
theorem Num.other {b w w':World}{g h:Nat}{A:Option Addr}{n c:Nat}{l:List Int}{i:Nat}(d:Num w h A n c l i)(r:In b A n c l)(hw:Below b.heap.size b w)(p:b.heap.size<=g)(v:b.heap.size<=h)(u:h≠g)(j:w.grownBy w' (some g)):Num w' h A n c l i:=by
 have hs: ∀k,k<w.heap.size->k≠g->w'.heap[k]?=w.heap[k]?:=λk m t=>j.block k m λe=>by injection e with e;exact t e
 have f:=hs h d.lt u;obtain⟨o,q,s⟩:=d.blk;have hb:Below b.heap.size b w':=kM hw j hw.size p;exact⟨(World.cell?_of_block (a:=⟨h,0,none⟩) f).trans d.c0,(World.cell?_of_block (a:=⟨h,1,none⟩) f).trans d.c1,⟨o,f.trans q,s⟩,(r.keep (Same.below hb)).mono λk (m:k<b.heap.size)=>by omega,d.le,d.nn⟩
def DI:Array MapEntry:= #[{key:=.string ⟨#[105,102]⟩,val:=.int .i64 17,born:=0},{key:=.string ⟨#[99,111,97,108,101,115,99,101]⟩,val:=.int .i64 18,born:=1},{key:=.string ⟨#[105,115,110,117,108,108]⟩,val:=.int .i64 16,born:=2},{key:=.string ⟨#[108,101,110,103,116,104]⟩,val:=.int .i64 19,born:=3},{key:=.string ⟨#[100,97,121]⟩,val:=.int .i64 20,born:=4}]
def vT:List (ByteArray×Value):=[(⟨#[105,102]⟩,.int .i64 17),(⟨#[99,111,97,108,101,115,99,101]⟩,.int .i64 18),(⟨#[105,115,110,117,108,108]⟩,.int .i64 16),(⟨#[108,101,110,103,116,104]⟩,.int .i64 19),(⟨#[100,97,121]⟩,.int .i64 20)]
def rD (w:World):World:=w.alloc (.map DI 5)
theorem Iq (w:World):qL (rD w) w.heap.size vT:=⟨DI,5,heap_alloc_new w _,rfl⟩
theorem Ke (s:ByteArray):(nD s vT).isSome=qp s:=by
 have key: ∀(l:List (ByteArray×Value)),(nD s l).isSome=(l.map (·.1)).any λx=>x.toList==s.toList:=by
  intro l
  induction l with
  |nil=>rfl
  |cons p l a=>
   rw[nD,List.map_cons,List.any_cons,show(p.1.toList==s.toList)=(s.toList==p.1.toList) from Bool.beq_comm];cases (s.toList==p.1.toList)
   ·simpa using a
   ·rfl
 exact key vT
theorem DJ (w:World):Calls Tryz.prog 261 #[] w λe w'=>e=.returned (.map (some w.heap.size))/\w'=rD w:=by
 have g:=@run_makeMap Tryz.prog;have a:(Instr.mapUpdate 157 (.map (some w.heap.size)) (.string ⟨#[105,102]⟩) (.int .i64 17)).run Tryz.prog (w.alloc (.map #[] 0))=.ok () (w.alloc (.map #[{key:=.string ⟨#[105,102]⟩,val:=.int .i64 17,born:=0}] 1)):=l9 Tryz.underlying157 Tryz.underlying9 w #[] 0 ⟨#[105,102]⟩ (.int .i64 17) rfl;have b:(Instr.mapUpdate 157 (.map (some w.heap.size)) (.string ⟨#[99,111,97,108,101,115,99,101]⟩) (.int .i64 18)).run Tryz.prog (w.alloc (.map #[{key:=.string ⟨#[105,102]⟩,val:=.int .i64 17,born:=0}] 1))=.ok () (w.alloc (.map #[{key:=.string ⟨#[105,102]⟩,val:=.int .i64 17,born:=0},{key:=.string ⟨#[99,111,97,108,101,115,99,101]⟩,val:=.int .i64 18,born:=1}] 2)):=l9 Tryz.underlying157 Tryz.underlying9 w #[{key:=.string ⟨#[105,102]⟩,val:=.int .i64 17,born:=0}] 1 ⟨#[99,111,97,108,101,115,99,101]⟩ (.int .i64 18) rfl;have c:(Instr.mapUpdate 157 (.map (some w.heap.size)) (.string ⟨#[105,115,110,117,108,108]⟩) (.int .i64 16)).run Tryz.prog (w.alloc (.map #[{key:=.string ⟨#[105,102]⟩,val:=.int .i64 17,born:=0},{key:=.string ⟨#[99,111,97,108,101,115,99,101]⟩,val:=.int .i64 18,born:=1}] 2))=.ok () (w.alloc (.map #[{key:=.string ⟨#[105,102]⟩,val:=.int .i64 17,born:=0},{key:=.string ⟨#[99,111,97,108,101,115,99,101]⟩,val:=.int .i64 18,born:=1},{key:=.string ⟨#[105,115,110,117,108,108]⟩,val:=.int .i64 16,born:=2}] 3)):=l9 Tryz.underlying157 Tryz.underlying9 w #[{key:=.string ⟨#[105,102]⟩,val:=.int .i64 17,born:=0},{key:=.string ⟨#[99,111,97,108,101,115,99,101]⟩,val:=.int .i64 18,born:=1}] 2 ⟨#[105,115,110,117,108,108]⟩ (.int .i64 16) rfl;have d:(Instr.mapUpdate 157 (.map (some w.heap.size)) (.string ⟨#[108,101,110,103,116,104]⟩) (.int .i64 19)).run Tryz.prog (w.alloc (.map #[{key:=.string ⟨#[105,102]⟩,val:=.int .i64 17,born:=0},{key:=.string ⟨#[99,111,97,108,101,115,99,101]⟩,val:=.int .i64 18,born:=1},{key:=.string ⟨#[105,115,110,117,108,108]⟩,val:=.int .i64 16,born:=2}] 3))=.ok () (w.alloc (.map #[{key:=.string ⟨#[105,102]⟩,val:=.int .i64 17,born:=0},{key:=.string ⟨#[99,111,97,108,101,115,99,101]⟩,val:=.int .i64 18,born:=1},{key:=.string ⟨#[105,115,110,117,108,108]⟩,val:=.int .i64 16,born:=2},{key:=.string ⟨#[108,101,110,103,116,104]⟩,val:=.int .i64 19,born:=3}] 4)):=l9 Tryz.underlying157 Tryz.underlying9 w #[{key:=.string ⟨#[105,102]⟩,val:=.int .i64 17,born:=0},{key:=.string ⟨#[99,111,97,108,101,115,99,101]⟩,val:=.int .i64 18,born:=1},{key:=.string ⟨#[105,115,110,117,108,108]⟩,val:=.int .i64 16,born:=2}] 3 ⟨#[108,101,110,103,116,104]⟩ (.int .i64 19) rfl;have f:(Instr.mapUpdate 157 (.map (some w.heap.size)) (.string ⟨#[100,97,121]⟩) (.int .i64 20)).run Tryz.prog (w.alloc (.map #[{key:=.string ⟨#[105,102]⟩,val:=.int .i64 17,born:=0},{key:=.string ⟨#[99,111,97,108,101,115,99,101]⟩,val:=.int .i64 18,born:=1},{key:=.string ⟨#[105,115,110,117,108,108]⟩,val:=.int .i64 16,born:=2},{key:=.string ⟨#[108,101,110,103,116,104]⟩,val:=.int .i64 19,born:=3}] 4))=.ok () (w.alloc (.map #[{key:=.string ⟨#[105,102]⟩,val:=.int .i64 17,born:=0},{key:=.string ⟨#[99,111,97,108,101,115,99,101]⟩,val:=.int .i64 18,born:=1},{key:=.string ⟨#[105,115,110,117,108,108]⟩,val:=.int .i64 16,born:=2},{key:=.string ⟨#[108,101,110,103,116,104]⟩,val:=.int .i64 19,born:=3},{key:=.string ⟨#[100,97,121]⟩,val:=.int .i64 20,born:=4}] 5)):=l9 Tryz.underlying157 Tryz.underlying9 w #[{key:=.string ⟨#[105,102]⟩,val:=.int .i64 17,born:=0},{key:=.string ⟨#[99,111,97,108,101,115,99,101]⟩,val:=.int .i64 18,born:=1},{key:=.string ⟨#[105,115,110,117,108,108]⟩,val:=.int .i64 16,born:=2},{key:=.string ⟨#[108,101,110,103,116,104]⟩,val:=.int .i64 19,born:=3}] 4 ⟨#[100,97,121]⟩ (.int .i64 20) rfl;go_enter Tryz.func261,Tryz.ntmps261;go_wp2;go_ret;exact⟨rfl,rfl⟩
theorem qK (v:Val):ll v=true↔v.kind=0/\v.num=0/\v.str.toList=[]:=by
 simp only[ll,jI,Bool.and_eq_true,beq_iff_eq,List.isEmpty_iff,and_assoc]
def jQ (c kd b:Int)(st nm:ByteArray)(a:Int):Array Value:= #[.int .i64 c,.int .i64 kd,.int .i64 b,.string st,.string nm,.int .i64 a]
theorem LX (kd a b:Int)(st nm:ByteArray)(f:Val.ok ⟨kd,a,st⟩)(w:World):
  Calls Tryz.prog 253 #[.agg (jQ 0 kd a st nm b)] w λe w'=>e=.returned (.bool (shaped ⟨0,⟨kd,a,st⟩,nm,b⟩))/\Below w.heap.size w w':=by
 have c:Hl (shaped ⟨0,⟨kd,a,st⟩,nm,b⟩=(valid ⟨kd,a,st⟩&&jI nm&&b==0)):=Hm (by simp[shaped]);simp only[jQ];go_enter Tryz.func253,Tryz.ntmps253;go_wp2_with (go_at_call 86;refine(rO ⟨kd,a,st⟩ f _).mono ?_;rintro e g ⟨rfl,d⟩);all_goals(go_ret;refine⟨gp ?_,by first|exact fH fI d|exact fI⟩;rw[c.o];go_light;simp_all[jI])
theorem GA (b kd a d:Int)(st nm:ByteArray)(w:World)(f:b≠0)(c:ll ⟨kd,a,st⟩=false):
  Calls Tryz.prog 253 #[.agg (jQ b kd a st nm d)] w λe w'=>e=.returned (.bool (shaped ⟨b,⟨kd,a,st⟩,nm,d⟩))/\Below w.heap.size w w':=by
 have g:Hl (shaped ⟨b,⟨kd,a,st⟩,nm,d⟩=false):=Hm (by simp only[shaped];rw[if_neg f,c];rfl);have j:(b != 0)=true:=by simpa using f
 have i:Hl (¬(kd=0/\a=0/\st.toList=[])):=Hm (λh=>by rw[(qK _).2 h]at c;cases c);clear c f;simp only[jQ];go_enter Tryz.func253,Tryz.ntmps253;go_wp2_with fail;all_goals(first|(exfalso;exact i.o ⟨by assumption,by assumption,by assumption⟩)|(go_ret;exact⟨gp g.o.symm,fI⟩))
theorem kF {s:ByteArray}(h:s.toList=[]):jI s=true:=by rw[jI,h];rfl
theorem L6 (nm st:ByteArray)(a:Int)(hs:Str nm)(f:st.toList=[])(w:World)(hw:Words w):
  Calls Tryz.prog 253 #[.agg (jQ 1 0 0 st nm a)] w λe w'=>e=.returned (.bool (shaped ⟨1,⟨0,0,st⟩,nm,a⟩))/\Below w.heap.size w w':=by
 have d:Hl (shaped ⟨1,⟨0,0,st⟩,nm,a⟩=((a==0)&&(iY nm&&!qw nm))):=Hm (by simp[shaped,ll,kF f]);simp only[jQ];go_enter Tryz.func253,Tryz.ntmps253;go_wp2_with (first|(go_at_call 184;refine(qa _ hs _).mono ?_;rintro e k ⟨rfl,b⟩;have c:=fH fI b;have g:=hw.below c;obtain⟨h,i⟩:=fU b;have j:=b.size)|(go_at_call 259;refine(sM _ _ g).mono ?_;rintro e w' ⟨rfl,rfl⟩));all_goals(go_ret;refine⟨gp ?_,by first|exact c|exact fI⟩;rw[d.o];go_light;simp_all)
theorem Jv (nm st:ByteArray)(a:Int)(hs:Str nm)(f:st.toList=[])(w:World)(hw:Words w):
  Calls Tryz.prog 253 #[.agg (jQ 20 0 0 st nm a)] w λe w'=>e=.returned (.bool (shaped ⟨20,⟨0,0,st⟩,nm,a⟩))/\Below w.heap.size w w':=by
 have d:Hl (shaped ⟨20,⟨0,0,st⟩,nm,a⟩=((a==0)&&(kS nm&&!qw nm))):=Hm (by simp[shaped,ll,kF f]);simp only[jQ];go_enter Tryz.func253,Tryz.ntmps253;go_wp2_with (first|(go_at_call 260;refine(EO _ hs _).mono ?_;rintro e k ⟨rfl,b⟩;have c:=fH fI b;have g:=hw.below c;obtain⟨h,i⟩:=fU b;have j:=b.size)|(go_at_call 259;refine(sM _ _ g).mono ?_;rintro e w' ⟨rfl,rfl⟩));all_goals(go_ret;refine⟨gp ?_,by first|exact c|exact fI⟩;rw[d.o];go_light;simp_all)
theorem ET (a b:Int)(nm st:ByteArray)(j:st.toList=[])(w:World)(c:a≠0)(f:a≠1)(g:a≠20)(d:a≠21):
  Calls Tryz.prog 253 #[.agg (jQ a 0 0 st nm b)] w λe w'=>e=.returned (.bool (shaped ⟨a,⟨0,0,st⟩,nm,b⟩))/\Below w.heap.size w w':=by
 have h:Hl (shaped ⟨a,⟨0,0,st⟩,nm,b⟩=((b==0)&&(jI nm&&decide (0<=arity a b)))):=Hm (by simp[shaped,ll,kF j,c,f,g,d]);have l:(a==0)=false:=by simpa using c
 have m:(a==1)=false:=by simpa using f
 have n:(a==20)=false:=by simpa using g
 have p:(a==21)=false:=by simpa using d
 have k:(a != 0)=true:=by simpa using c
 have p3:(a != 21)=true:=by simpa using d
 clear c f g d;simp only[jQ];go_enter Tryz.func253,Tryz.ntmps253;go_wp2_with (go_at_call 188;refine(qV ⟨a,⟨0,0,st⟩,nm,b⟩ _).mono ?_;rintro e q ⟨rfl,i⟩);all_goals(go_ret;refine⟨gp ?_,by first|exact fH fI i|exact fI⟩;rw[h.o];go_light;simp_all[jI])
theorem Ga (w:World)(b:Nat)(h:qL w b vT)(s:ByteArray):(Instr.lookup 157 (.map (some b)) (.string s) true).run Tryz.prog w=.ok (.tuple #[(nD s vT).getD (.int .i64 0),.bool (qp s)]) w:=by
 have:=(ES (P:=Tryz.prog) Tryz.underlying157 Tryz.underlying9 h s (.int .i64 0) (by kernel_rfl)).1;rw[Ke]at this;exact this
theorem Jw (nm st:ByteArray)(a:Int)(hs:Str nm)(m:st.toList=[])(w:World)(hw:Words w):
  Calls Tryz.prog 253 #[.agg (jQ 21 0 0 st nm a)] w λe w'=>e=.returned (.bool (shaped ⟨21,⟨0,0,st⟩,nm,a⟩))/\Below w.heap.size w w':=by
 have g:Hl (shaped ⟨21,⟨0,0,st⟩,nm,a⟩=(kS nm&&!qp nm&&!qw nm&&(decide (0<=a)&&decide (a<=8)))):=Hm (by simp[shaped,ll,kF m]);have l:=Ga (rD (w.alloc (.cells #[.int .i64 21,.int .i64 0,.int .i64 0,.string st,.string nm,.int .i64 a] 89)).drew) (w.heap.size+1) (by have:=Iq (w.alloc (.cells #[.int .i64 21,.int .i64 0,.int .i64 0,.string st,.string nm,.int .i64 a] 89)).drew;simpa using this) nm;simp only[jQ];go_enter Tryz.func253,Tryz.ntmps253;go_wp2_with fail;go_region_held3 (λV=>V.cell? ⟨w.heap.size,4,none⟩=some (.string nm)) (first|go_keep|exact fO fI (by simp) (by simp[go_sem])) (first|(go_at_call 261;refine(DJ _).mono ?_;rintro e w' ⟨rfl,rfl⟩));obtain⟨c,b⟩: ∃c,c=rD (w.alloc (.cells #[.int .i64 21,.int .i64 0,.int .i64 0,.string st,.string nm,.int .i64 a] 89)).drew:=⟨_,rfl⟩;have i:Below w.heap.size w c:=by rw[b];exact fH ((Below.refl _ _).alloc (Nat.le_refl _) _).drew fI
 have g4:c.cell? ⟨w.heap.size,4,none⟩=some (.string nm):=by rw[b];exact fO fI (by simp) (by simp[go_sem])
 have j:c.cell? ⟨w.heap.size,5,none⟩=some (.int .i64 a):=by rw[b];exact fO fI (by simp) (by simp[go_sem])
 have h:w.heap.size<c.heap.size:=by rw[b];simp[rD];omega
 rw[<-b];clear l b;go_wp2_with fail;refine(EO _ hs _).mono ?_;rintro e p ⟨rfl,f⟩;have d:=fH i f;have n:=hw.below d;replace g4:=fO f h g4;replace j:=fO f h j;clear f i h hw;cases k:kS nm
 ·go_wp2;go_ret;exact⟨gp (by rw[g.o,k];rfl),d⟩
 cases hi:qp nm
 ·go_wp2_with (go_at_call 259;refine(sM _ _ n).mono ?_;rintro e w' ⟨rfl,rfl⟩);all_goals(go_ret;refine⟨gp ?_,d⟩;rw[g.o];go_light;first|(simp_all;done)|(simp_all;omega))
 ·go_wp2;go_ret;exact⟨gp (by rw[g.o,k,hi];rfl),d⟩
theorem Gz (n:Node)(m:n.ok)(w:World)(hw:Words w):
  Calls Tryz.prog 253 #[.agg n.cells.toArray] w λe w'=>e=.returned (.bool (shaped n))/\Below w.heap.size w w':=by
 obtain⟨b,⟨kd,f,st⟩,nm,a⟩:=n;obtain⟨_,o,hs,_⟩:=m;by_cases d:b=0
 ·subst d;exact LX kd f a st nm o w
 cases l:ll ⟨kd,f,st⟩
 ·exact GA b kd f a st nm w d l
 obtain⟨g,h,c⟩:=(qK _).1 l;simp only at g h c;subst g h;by_cases i:b=1
 ·subst i;exact L6 nm st a hs c w hw
 by_cases j:b=20
 ·subst j;exact Jv nm st a hs c w hw
 by_cases k:b=21
 ·subst k;exact Jw nm st a hs c w hw
 exact ET b a nm st c w d i j k
theorem CQ (s:ByteArray)(hs:Str s)(w:World):Calls Tryz.prog 192 #[.string s] w λe w'=>e=.returned (.bool (iY s&&!qw s))/\Below w.heap.size w w':=by
 go_enter Tryz.func192,Tryz.ntmps192;go_wp2_with (first|(go_at_call 127;refine(lg _ hs _).mono ?_;rintro e w' ⟨rfl,rfl⟩)|(go_at_call 221;refine(wJ _ _).mono ?_;rintro e b ⟨rfl,a⟩));all_goals(go_ret;refine⟨gp ?_,by first|exact a|exact Below.refl _ _⟩;go_light;simp_all)
theorem tq (s:ByteArray)(hs:Str s)(w:World):Calls Tryz.prog 193 #[.string s] w λe w'=>e=.returned (.bool (kS s&&!qw s))/\Below w.heap.size w w':=by
 go_enter Tryz.func193,Tryz.ntmps193;go_wp2_with (first|(go_at_call 222;refine(LU _ hs _).mono ?_;rintro e w' ⟨rfl,rfl⟩)|(go_at_call 221;refine(wJ _ _).mono ?_;rintro e b ⟨rfl,a⟩));all_goals(go_ret;refine⟨gp ?_,by first|exact a|exact Below.refl _ _⟩;go_light;simp_all)
theorem KL (kd a c:Int)(st nm:ByteArray)(m:Val.ok ⟨kd,a,st⟩)(w:World):
  Calls Tryz.prog 153 #[.agg (jQ 0 kd a st nm c)] w λe w'=>e=.returned (.bool (shaped ⟨0,⟨kd,a,st⟩,nm,c⟩))/\Below w.heap.size w w':=by
 have k:Hl (shaped ⟨0,⟨kd,a,st⟩,nm,c⟩=(valid ⟨kd,a,st⟩&&jI nm&&c==0)):=Hm (by simp[shaped]);simp only[jQ];obtain q|⟨q,h⟩|⟨q,h,n⟩|⟨q,h,n⟩:¬kd=0\/(kd=0/\¬a=0)\/(kd=0/\a=0/\¬st.toList=[])\/(kd=0/\a=0/\st.toList=[]):=by
  by_cases d:kd=0
  ·by_cases g:a=0
   ·by_cases i:st.toList=[]
    ·exact .inr (.inr (.inr ⟨d,g,i⟩))
    ·exact .inr (.inr (.inl ⟨d,g,i⟩))
   ·exact .inr (.inl ⟨d,g⟩)
  ·exact .inl d
 all_goals
  (try subst q)
  (try subst h);go_enter Tryz.func153,Tryz.ntmps153;go_wp2_with (go_at_call 100;refine(xH ⟨_,_,st⟩ m _).mono ?_;rintro e p ⟨rfl,f⟩;have j:=fH fI f;have g4:=fO (b:=w.heap.size) (o:=4) (v:=.string nm) f (by simp) (by simp[go_sem]);have l:=fO (b:=w.heap.size) (o:=5) (v:=.int .i64 c) f (by simp) (by simp[go_sem]);clear f);all_goals(go_ret;refine⟨gp ?_,j⟩;rw[k.o];(try clear g4 l);(try clear j);go_light;simp_all[jI])
theorem FR (c kd a d:Int)(st nm:ByteArray)(w:World)(j:c≠0)(i:ll ⟨kd,a,st⟩=false):
  Calls Tryz.prog 153 #[.agg (jQ c kd a st nm d)] w λe w'=>e=.returned (.bool (shaped ⟨c,⟨kd,a,st⟩,nm,d⟩))/\Below w.heap.size w w':=by
 have l:Hl (shaped ⟨c,⟨kd,a,st⟩,nm,d⟩=false):=Hm (by simp only[shaped];rw[if_neg j,i];rfl);have u:(c==0)=false:=by simpa using j
 have m:¬(kd=0/\a=0/\st.toList=[]):=λh=>by rw[(qK _).2 h]at i;cases i
 clear i j;simp only[jQ];obtain q|⟨q,p⟩|⟨q,p,t⟩:¬kd=0\/(kd=0/\¬a=0)\/(kd=0/\a=0/\¬st.toList=[]):=by
  by_cases f:kd=0
  ·by_cases k:a=0
   ·exact .inr (.inr ⟨f,k,λs=>m ⟨f,k,s⟩⟩)
   ·exact .inr (.inl ⟨f,k⟩)
  ·exact .inl f
 all_goals
  clear m
  (try subst q)
  (try subst p);go_enter Tryz.func153,Tryz.ntmps153;go_wp2_with (go_at_call 131;refine(pM ⟨c,⟨_,_,st⟩,nm,d⟩ _).mono ?_;rintro e x ⟨rfl,g⟩;have n:=fH fI g;have g4:=fO (b:=w.heap.size) (o:=4) (v:=.string nm) g (by simp) (by simp[go_sem]);have r:=fO (b:=w.heap.size) (o:=5) (v:=.int .i64 d) g (by simp) (by simp[go_sem]);clear g);all_goals(go_ret;refine⟨gp (by first|exact l.o.symm|(rw[l.o];(try clear g4 r);(try clear n);go_light;simp_all;done)),by first|exact n|exact fI⟩)
theorem KM (nm st:ByteArray)(a:Int)(hs:Str nm)(f:st.toList=[])(w:World):
  Calls Tryz.prog 153 #[.agg (jQ 1 0 0 st nm a)] w λe w'=>e=.returned (.bool (shaped ⟨1,⟨0,0,st⟩,nm,a⟩))/\Below w.heap.size w w':=by
 have c:Hl (shaped ⟨1,⟨0,0,st⟩,nm,a⟩=((a==0)&&(iY nm&&!qw nm))):=Hm (by simp[shaped,ll,kF f]);simp only[jQ];go_enter Tryz.func153,Tryz.ntmps153;go_wp2_with (go_at_call 192;refine(CQ _ hs _).mono ?_;rintro e g ⟨rfl,d⟩;have b:=fH fI d);all_goals(go_ret;refine⟨gp ?_,by first|exact b|exact fI⟩;rw[c.o];(try clear g4 g5);(try clear b);go_light;simp_all)
theorem IW (nm st:ByteArray)(a:Int)(hs:Str nm)(f:st.toList=[])(w:World):
  Calls Tryz.prog 153 #[.agg (jQ 20 0 0 st nm a)] w λe w'=>e=.returned (.bool (shaped ⟨20,⟨0,0,st⟩,nm,a⟩))/\Below w.heap.size w w':=by
 have c:Hl (shaped ⟨20,⟨0,0,st⟩,nm,a⟩=((a==0)&&(kS nm&&!qw nm))):=Hm (by simp[shaped,ll,kF f]);simp only[jQ];go_enter Tryz.func153,Tryz.ntmps153;go_wp2_with (go_at_call 193;refine(tq _ hs _).mono ?_;rintro e g ⟨rfl,d⟩;have b:=fH fI d);all_goals(go_ret;refine⟨gp ?_,by first|exact b|exact fI⟩;rw[c.o];(try clear g4 g5);(try clear b);go_light;simp_all)
theorem IX (nm st:ByteArray)(a:Int)(hs:Str nm)(j:st.toList=[])(w:World):
  Calls Tryz.prog 153 #[.agg (jQ 21 0 0 st nm a)] w λe w'=>e=.returned (.bool (shaped ⟨21,⟨0,0,st⟩,nm,a⟩))/\Below w.heap.size w w':=by
 have g:Hl (shaped ⟨21,⟨0,0,st⟩,nm,a⟩=(kS nm&&!qp nm&&!qw nm&&(decide (0<=a)&&decide (a<=8)))):=Hm (by simp[shaped,ll,kF j]);simp only[jQ];go_enter Tryz.func153,Tryz.ntmps153;go_wp2_with (first|(go_at_call 193;refine(tq _ hs _).mono ?_;rintro e m ⟨rfl,c⟩;have d:=fH fI c;have g4:=fO (b:=w.heap.size) (o:=4) (v:=.string nm) c (by simp) (by simp[go_sem]);have h:=fO (b:=w.heap.size) (o:=5) (v:=.int .i64 a) c (by simp) (by simp[go_sem]);clear c)|(go_at_call 194;refine(DK _ _).mono ?_;rintro e n ⟨rfl,f⟩;have i:=fH d f;clear f));all_goals(go_ret;refine⟨gp ?_,by first|exact i|exact d|exact fI⟩;rw[g.o];(try clear g4 h);(try clear d);go_light;cases k:kS nm<;>cases l:qw nm<;>cases hi:qp nm<;>first|(simp_all;done)|(simp_all;omega))
theorem Ej (a c:Int)(nm st:ByteArray)(n:st.toList=[])(w:World)(f:a≠0)(g:a≠1)(h:a≠20)(i:a≠21):
  Calls Tryz.prog 153 #[.agg (jQ a 0 0 st nm c)] w λe w'=>e=.returned (.bool (shaped ⟨a,⟨0,0,st⟩,nm,c⟩))/\Below w.heap.size w w':=by
 have k:Hl (shaped ⟨a,⟨0,0,st⟩,nm,c⟩=((c==0)&&(jI nm&&decide (0<=arity a c)))):=Hm (by simp[shaped,ll,kF n,f,g,h,i]);have p:(a==0)=false:=by simpa using f
 have q:(a==1)=false:=by simpa using g
 have r:(a==20)=false:=by simpa using h
 have s:(a==21)=false:=by simpa using i
 clear f g h i;simp only[jQ];go_enter Tryz.func153,Tryz.ntmps153;go_wp2_with (go_at_call 131;refine(pM ⟨a,⟨0,0,st⟩,nm,c⟩ _).mono ?_;rintro e t ⟨rfl,d⟩;have j:=fH fI d;have g4:=fO (b:=w.heap.size) (o:=4) (v:=.string nm) d (by simp) (by simp[go_sem]);have m:=fO (b:=w.heap.size) (o:=5) (v:=.int .i64 c) d (by simp) (by simp[go_sem]);clear d);all_goals(go_ret;refine⟨gp ?_,j⟩;rw[k.o];(try clear g4 m);(try clear j);go_light;first|(simp_all[jI];done)|(simp_all[jI];intro l _;subst l;first|assumption|omega))
theorem El (n:Node)(m:n.ok)(w:World):
  Calls Tryz.prog 153 #[.agg n.cells.toArray] w λe w'=>e=.returned (.bool (shaped n))/\Below w.heap.size w w':=by
 obtain⟨b,⟨kd,f,st⟩,nm,a⟩:=n;obtain⟨_,o,hs,_⟩:=m;by_cases d:b=0
 ·subst d;exact KL kd f a st nm o w
 cases l:ll ⟨kd,f,st⟩
 ·exact FR b kd f a st nm w d l
 obtain⟨g,h,c⟩:=(qK _).1 l;simp only at g h c;subst g h;by_cases i:b=1
 ·subst i;exact KM nm st a hs c w
 by_cases j:b=20
 ·subst j;exact IW nm st a hs c w
 by_cases k:b=21
 ·subst k;exact IX nm st a hs c w
 exact Ej b a nm st c w d i j k
end Go.Proofs.YtopjjlmfilgngaaGreatDoor
