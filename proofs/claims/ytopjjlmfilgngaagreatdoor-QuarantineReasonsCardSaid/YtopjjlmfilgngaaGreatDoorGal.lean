/-
  A map from ints to slices of entries that the call has made ('m[d] = append(m[d], x)'): the groups of a list. No program is in sight. slices.Clone of values, partition.copied, byDay: the rows of each day, copied. Package bag: put, done, both. warehouseref22.CopyEntries. Package bag: merge, Add. (Printed by gen_bagm.py.) Plain law of bag.sum: a sorted list, its runs of equal rows summed. No program is in sight. (*warehouseworld.Numbers).Next; Instants, Value, Row. bag.Add, warehouseref6.Add.
-/
import Derived.Test.YtopjjlmfilgngaaGreatDoorGaj
import Derived.Test.YtopjjlmfilgngaaGreatDoorGak
namespace Go.Proofs.YtopjjlmfilgngaaGreatDoor
set_option maxHeartbeats 4000000
set_option maxRecDepth 100000
open Go.RowKit Go.Maps
set_option linter.unusedSimpArgs false
set_option linter.unusedVariables false
def RV (v:Value):Option (DataW Value×List MemPlace):=some (.held v,[])
def tH (P:Program)(K:TypeId)(c w:World)(b:Nat)(g:Ent->Int)(zs:List Ent):Prop:=
 ∃(D:DataW Value) (f:Int->Value),w.ownsMap P K RV b zs.length D/\c.heap.size<=b/\Maps.IsMap D/\
  (∀d,D.atKey (.int .i64 d) (.held (.slice none 0 0))=.held (f d))/\
  (∀d,Maps.has D (.int .i64 d)=true↔d∈zs.map g)/\
  (∀d,gz c w (f d) (zs.filter λx=>g x==d))/\
  (∀d a,d≠a->(f d).ownBlock=none\/(f d).ownBlock≠(f a).ownBlock)
def Ph (P:Program)(t K:TypeId)(f w:World)(b:Nat)(g:Ent->Int)(zs:List Ent)(d:Int)(v:Value):Prop:=
 ∀(c:World) (a:Value) (x:Ent),w.grownBy c v.ownBlock->g x=d->gz f c a ((zs.filter λy=>g y==d)++[x])->(a.ownBlock=v.ownBlock\/ ∃k,a.ownBlock=some k/\w.heap.size<=k)->
  ∃e,(Instr.mapUpdate t (.map (some b)) (.int .i64 d) a).run P c=.ok () e/\tH P K f e b g (zs++[x])/\c.grownBy e (some b)
theorem gz.nil (w w':World):gz w w' (.slice none 0 0) []:=⟨[],World.ownsRow_nil _ _ _ _,rfl⟩
theorem gz.kept {g w f:World}{v:Value}{zs:List Ent}{row:Option Nat}(h:gz g w v zs)(i:w.grownBy f row)(l:v.ownBlock=none\/v.ownBlock≠row)(m: ∀k,row=some k->¬iF w 36 k):gz g f v zs:=by
 obtain⟨j,a,b⟩:=h;have hs: ∀k,iF w 36 k->f.heap[k]?=w.heap[k]?:=λk d=>i.block k d.lt λe=>m k e.symm d;have n:Same (New g w 36) w f:=λk d=>hs k d.2;exact⟨j,a.kept i l,(b.keep n).mono λk d=>⟨d.1,by obtain⟨c,o⟩:=d.2;exact⟨c,(hs k d.2).trans o⟩⟩⟩
theorem gz.row {c w:World}{v:Value}{zs:List Ent}(h:gz c w v zs){k:Nat}(b:v.ownBlock=some k):c.heap.size<=k/\k<w.heap.size/\iF w 50 k:=by
 obtain⟨d,a,_⟩:=h;exact⟨(a.lt k b).1,(a.lt k b).2,LD a b⟩
theorem xX {P:Program}{K:TypeId}{w:World}{R:Value->Option (DataW Value×List MemPlace)}{b n:Nat}{D:DataW Value}(h:w.ownsMap P K R b n D){t:TypeId}(d:iF w t b):False:=by
 obtain⟨es,clock,hb,_⟩:=h;obtain⟨c,a⟩:=d;rw[hb]at a;cases a
section
variable {P:Program}{t K e:TypeId}{a w:World}{b:Nat}{g:Ent->Int}{zs:List Ent}
theorem tH.made (P:Program)(K:TypeId)(a w:World)(g:Ent->Int)(h:a.heap.size<=w.heap.size):tH P K a (w.alloc (.map #[] 0)) w.heap.size g []:=
 ⟨.map [],λ_=>.slice none 0 0,World.ownsMap_made _ _ _ _,h,Maps.isMap_empty,λ_=>rfl,λd=>by simp[Maps.has],λ_=>gz.nil _ _,λ_ _ _=>.inl rfl⟩
theorem tH.lt (h:tH P K a w b g zs):b<w.heap.size:=by
 obtain⟨D,f,c,_⟩:=h;exact c.lt
theorem tH.base (h:tH P K a w b g zs):a.heap.size<=b:=by
 obtain⟨D,f,d,c,_⟩:=h;exact c
theorem tH.rebase {c:World}(h:tH P K a w b g zs)(hb:c.heap.size<=a.heap.size):tH P K c w b g zs:=by
 obtain⟨D,f,i,j,k,l,m,n,o⟩:=h;exact⟨D,f,i,Nat.le_trans hb j,k,l,m,λd=>(n d).base hb,o⟩
theorem tH.below {i:World}(h:tH P K a w b g zs)(hb:Below w.heap.size w i):tH P K a i b g zs:=by
 obtain⟨D,f,c,j,k,l,m,n,o⟩:=h;have p:=c.lt;obtain⟨es,clock,q,r⟩:=c;exact⟨D,f,⟨es,clock,(hb.block b p).trans q,r⟩,j,k,l,m,λd=>(n d).below hb,o⟩
theorem tH.look (h:tH P K a w b g zs)(s:P.underlying t=some (.map K e))(C:P.underlying K=some (.int .i64))(hz: ∀V,(zeroValue e).run P V=.ok (.slice none 0 0) V){d:Int}(hd:jU d)(hn:zs.length<maxLen):
  ∃v,(∀V,V.heap[b]?=w.heap[b]?->(Instr.lookup t (.map (some b)) (.int .i64 d) false).run P V=.ok v V)/\gz a w v (zs.filter λx=>g x==d)/\Ph P t K a w b g zs d v:=by
 obtain⟨D,f,r,X,A,J,Y,q,B⟩:=h;have ae:(Lit.int .i64 d).wf=true:=WalkArith.wf_i64 hd;have O:keyOf P K (.int .i64 d)=some (.int .i64 d):=keyOf_int_mk C ae;have Q:WideAt.IsKeyLit (.int .i64 d):=trivial;have H: ∀V,V.heap[b]?=w.heap[b]?->(Instr.lookup t (.map (some b)) (.int .i64 d) false).run P V=.ok (f d) V:=λV Z=>by
  have W:V.ownsMap P K RV b zs.length D:=by
   obtain⟨es,clock,k1,k2⟩:=r;exact⟨es,clock,Z.trans k1,k2⟩
  obtain⟨v,ps,H,S⟩:=W.lookup (int_keyed C) s (hz V) (zd:=.held (.slice none 0 0)) (zp:=[]) rfl O;have j:=J d;simp only[RV,Option.some.injEq,Prod.mk.injEq]at S;rw[<-S.1]at j;injection j with j;rw[<-j];exact H
 refine⟨_,H,q d,?_⟩;intro T n x N y M ab;have af:=r.lt;have aa:some b≠(f d).ownBlock:=λj=>xX r ((q d).row j.symm).2.2;have I:=r.kept N aa;obtain⟨U,ac,o2,z⟩:=I.update (int_keyed C) s hn (val:=n) (d:=.held n) (ps:=[]) O rfl;have F: ∀k t,some b=some k->¬iF T t k:=λk t j o=>by
  cases j;exact xX I o
 have ad: ∀k,(f d).ownBlock=some k->¬iF w 36 k:=λk o s=>iF.ne ((q d).row o).2.2 s (by decide) rfl;have R: ∀{u:Value} {l:List Ent},gz a T u l->u.ownBlock=none\/u.ownBlock≠some b:=λ{u l} hu=>by
  by_cases hb:u.ownBlock=some b
  ·exact absurd (hu.row hb).2.2 (F b _ rfl)
  ·exact .inr hb
 refine⟨U,ac,⟨_,λi=>if i=d then n else f i,by rw[List.length_append];exact o2,X,A.put _ _,λi=>?_,λi=>?_,λi=>?_,λi p G=>?_⟩,z⟩
 ·show _=DataW.held (if i=d then n else f i);by_cases m:i=d
  ·subst m;rw[if_pos rfl];exact Maps.atKey_put_same A Q _ _
  ·rw[if_neg m,<-J i];exact Maps.atKey_put_other (λj=>m (by injection j)) _ _
 ·rw[List.map_append,List.mem_append];by_cases m:i=d
  ·subst m;rw[Maps.has_put_same A Q];simp[y]
  ·rw[Maps.has_put_other (λj=>m (by injection j)),Y i];simp[y,m,λe:d=i=>m e.symm]
 ·show gz a U (if i=d then n else f i) _;rw[List.filter_append];by_cases m:i=d
  ·subst m;rw[if_pos rfl,show [x].filter (λx=>g x==i)=[x] by simp[y]];exact M.kept z (R M) (λk j=>F k _ j)
  ·rw[if_neg m,show [x].filter (λx=>g x==i)=[] by simp[y];exact λe=>m e.symm,List.append_nil];have o:=(q i).kept N (B i d m) ad;exact o.kept z (R o) (λk j=>F k _ j)
 ·have other: ∀c,c≠d->(f c).ownBlock=none\/(f c).ownBlock≠n.ownBlock:=λc hc=>by
   rcases ab with h|⟨k,h,o⟩
   ·rw[h];exact B c d hc
   ·by_cases hb:(f c).ownBlock=some k
    ·have:=((q c).row hb).2.1;omega
    ·rw[h];exact .inr hb
  show(if i=d then n else f i).ownBlock=none\/(if i=d then n else f i).ownBlock≠(if p=d then n else f p).ownBlock;by_cases E:i=d
  ·subst E;rw[if_pos rfl,if_neg (λj=>G j.symm)];rcases other p (λj=>G j.symm) with h|h
   ·cases ag:n.ownBlock with
    |none=>exact .inl rfl
    |some k=>exact .inr (by rw[h];simp)
   ·exact .inr λj=>h j.symm
  ·rw[if_neg E];by_cases L:p=d
   ·subst L;rw[if_pos rfl];exact other i E
   ·rw[if_neg L];exact B i p G
theorem tH.get (h:tH P K a w b g zs)(q:P.underlying t=some (.map K e))(i:P.underlying K=some (.int .i64))(r:(zeroValue e).run P w=.ok (.slice none 0 0) w){d:Int}(hd:jU d):
  ∃v,(Instr.lookup t (.map (some b)) (.int .i64 d) false).run P w=.ok v w/\gz a w v (zs.filter λx=>g x==d):=by
 obtain⟨D,f,l,s,u,m,y,n,z⟩:=h;have o:keyOf P K (.int .i64 d)=some (.int .i64 d):=keyOf_int_mk i (WalkArith.wf_i64 hd);obtain⟨v,A,p,j⟩:=l.lookup (int_keyed i) q r (zd:=.held (.slice none 0 0)) (zp:=[]) rfl o;have k:v=f d:=by
  have c:=m d;simp only[RV,Option.some.injEq,Prod.mk.injEq]at j;rw[<-j.1]at c;injection c
 subst k;exact⟨_,p,n d⟩
end
theorem Below.grows {w w':World}(h:Below w.heap.size w w')(row:Option Nat):w.grownBy w' row:=⟨h.os,h.tape,h.output,h.size,λk a _=>h.block k a⟩
open Go.RowKit
theorem uB (w:World)(A:Option Addr)(n c:Nat)(xs:List Val)(b:In w A n c xs)(I:n<=1048576):
  Calls Tryz.prog 37 #[.slice A n c] w λe w'=>(∃A' c',e=.returned (.slice A' n c')/\Sl w' (New w w' 36) A' n c' xs)/\Below w.heap.size w w':=by
 obtain⟨F,hi,C,D,E⟩:=info_parts nQ;have v:=Hm b.len;have J:=λ(W:World) (a:Option Addr) (l c:Nat)=>Lib.run_eql_slice_nil (P:=Tryz.prog) W 23 36 a l c 0 0 Tryz.underlying23;cases A with
 |none=>
  have q:c=0:=b.2.2.2.1 rfl;have f:n=0:=by have:=b.2.1;omega
  subst q f;have s:xs=[]:=List.eq_nil_of_length_eq_zero b.1;subst s;go_enter Tryz.func37,Tryz.ntmps37;go_wp2;go_ret;exact⟨⟨_,_,rfl,Sl.nil_⟩,Below.refl _ _⟩
 |some p=>
  obtain⟨k,d,m⟩:=Sl.cells (b.below (fI (o:=.cells #[] 36)));have f:=rY d;have d:=Hm d;go_enter Tryz.func37,Tryz.ntmps37;go_wp2_with (at_builtin;refine lV _ rfl (.tmp 5) (.tmp 6) 23 rfl w.heap.size 36 F _ 3 32 Tryz.underlying23 hi C D E rfl (by decide) (.slice (some ⟨w.heap.size,0,none⟩) 0 0) 0 [] rfl (World.ownsRow_made w #[] 0 (Nat.le_refl _) (by decide) rfl) (some p) n c k rfl (λh=>by cases h) m f (by simp only[maxLen];omega) (by omega) (by simp) ?_;intro G i x u H);have r:Below w.heap.size w i:=(fI).grown u (by simp) (λj e=>by simp[Value.ownBlock]at e;omega);have y:i.ownsRow w.heap.size 36 3 G n k:=by simpa using x
  obtain⟨A',c',rfl,z,_⟩:=kU (S:=λ_=>False) (T:=New w i 36) y (oJ d.o) (λ_ h=>h.elim) v.o (λg t B=>⟨t,B⟩);go_ret;exact⟨⟨A',c',rfl,z⟩,r⟩
theorem xm:Elem Tryz.prog 27 50 2 32:=mU _ Tryz.underlying27 rq rfl (by decide)
abbrev OE (B:Nat)(w:World)(v:Value)(zs:List Ent):Prop:=OL 50 B (λ_=>False) [36] w v zs
theorem gz.ol {w w':World}{v:Value}{zs:List Ent}(h:gz w w' v zs)(hb:w.heap.size<=w'.heap.size):OE w.heap.size w' v zs:=by
 obtain⟨b,c,d⟩:=h;exact⟨⟨b,c,d.mono λk a=>.inr ⟨a.1,_,by simp,a.2⟩⟩,hb⟩
def NI (zs:List Ent)(row:List Val)(k:Int):Bool×List Ent:=if k < -65536\/65536<k then(false,[]) else(true,if k=0 then zs else zs++[⟨row,k⟩])
theorem Cw (w:World)(A:Option Addr)(n c:Nat)(xs:List Ent)(z:In w A n c xs)(hn:n<=1048576)(ap: ∀x∈xs,x.row.length<=4096):
  Calls Tryz.prog 42 #[.slice A n c] w
   λe w'=>(∃v,e=.returned v/\gz w w' v xs)/\Below w.heap.size w w':=by
 obtain⟨i0,hi,ay,az,aA⟩:=info_parts rq;obtain⟨i1,hj,av,aw,ax⟩:=info_parts nQ;have aB:=z.le;go_enter Tryz.func42,Tryz.ntmps42;go_wp2;go_loopw [3,4] (λo i wr=> ∃k:Nat,k<=n/\i=.int .i64 k/\gz w wr o (xs.take k)/\Below w.heap.size w wr)
  (λ_ i _=>n-(RowKit.intOf i).toNat)
 case atStart=>exact⟨0,Nat.zero_le _,rfl,gz.nil _ _,Below.refl _ _⟩
 case round=>
  obtain⟨k,b,rfl,U,hb⟩:=hrel;have L:=Hm U;clear U;by_cases an:k<n
  ·obtain⟨f,off,x,rfl,a,N,s,l,P,m,q,r,e3⟩:=z.ent an;replace m:=fO hb a m;replace q:=fO hb a q;have aC:=Nat.lt_of_lt_of_le a hb.size;obtain⟨m1,m2⟩:=e3;have aq:x.row.length<=4096:=ap x (List.mem_of_getElem? (iR N.o).1);have k0:(0:Int)<=(k:Int):=by omega
   have k1:(k:Int)<(n:Int):=by omega
   obtain⟨cs,y,Q⟩:=L.o;have B:Hl ((xs.take k).length=k):=Hm (by rw[List.length_take,z.len];omega);rw[B.o]at y;have M:=Hm y;have ar:=hb.size;have af:=Hm (λg (h:u3.ownBlock=some g)=>(y.lt g h).1);obtain⟨rs,I,K⟩:=Sl.cells r;have aj:s=none->l=0:=λh=>by have:=r.2.2.2.1 h;have:=r.2.1;omega
   have aD:l<=4096:=by rw[<-r.len];exact aq
   have ai:=rY I;have ah:Hl (∀W,Below w.heap.size w W->Src W 3 s l rs):=Hm (λW hW=>⟨K.1,λh0=>by
    obtain⟨O,Z,e,hc⟩:=K.2 h0;refine⟨O,Z,e,λj u hu=>?_⟩;have R:=hc j u hu;exact(hW.cell (p:=⟨O,Z+j,none⟩) (block_lt_of_cell R)).trans R⟩)
   have ae:=Hm I;have ab:=Hm Q;clear y Q K I;go_wp2;go_region_held3 (λw'=>w'.cell? ⟨f,off+k*2,none⟩=some (.slice s l P)/\w'.cell? ⟨f,off+k*2+1,none⟩=some (.int .i64 x.count)) (first|exact⟨m,q⟩|exact⟨(E.cell (p:=⟨f,off+k*2,none⟩) a).trans m,(E.cell (p:=⟨f,off+k*2+1,none⟩) a).trans q⟩|exact⟨(D.cell (p:=⟨f,off+k*2,none⟩) a).trans m,(D.cell (p:=⟨f,off+k*2+1,none⟩) a).trans q⟩|go_keep) (first|(refine jl _ rfl (.const (.slice none 0 0)) (.tmp 16) 23 rfl w.heap.size 36 i1 _ 3 32 Tryz.underlying23 hj av aw ax rfl (by decide) (.slice none 0 0) 0 [] rfl (World.ownsRow_nil _ _ _ _) s l P rs (by simp[Act.eval,Act.put]) aj (by exact ah.o _ ((hb.drew))) ai (by simp only[maxLen];omega) (by omega) (by simp;omega) ?_;intro v0 d X G ak;have D:Below w.heap.size wr d:=((Below.refl w.heap.size wr).drew).grown G (by simp;omega) (by simp[Value.ownBlock]);obtain⟨A0,c0,rfl,J,_⟩:=kU (S:=λ_=>False) (T:=New w d 36) X (oJ ae.o) (λ_ h=>h.elim) (by rw[r.len];omega) (λg F ht=>⟨F,ht⟩);rw[Nat.zero_add]at J;have ag:=Hm J;have t:Below wr.heap.size wr d:=((Below.refl wr.heap.size wr).drew).grown G (by simp) (by simp[Value.ownBlock]);have au:w.heap.size<=d.heap.size:=Nat.le_trans ar t.size;have C:=Hm (wG M.o (λg F=>t.block g (M.o.lt g F).2));have aa:=Hm ((ab.o.keep ((Same.below t).sub λk b=>b.2.lt)).mono λk (b:New w wr 36 k)=>(⟨b.1,b.2.below t⟩:New w d 36 k));clear J X G ak)|(refine jl _ rfl (.tmp 11) (.tmp 24) 27 rfl w.heap.size 50 i0 _ 2 32 Tryz.underlying27 hi ay az aA rfl (by decide) u3 k cs (by simp[Act.eval,Act.put]) (by first|exact qc (C.o.alloc _)|exact C.o.alloc _) (some ⟨d.heap.size,0,none⟩) 1 1 [.slice A0 l c0,.int .i64 x.count] (by simp[Act.eval,Act.put]) (by intro h;cases h) (by exact qG (by simp[go_sem]) (by simp[go_sem])) pJ (by simp only[maxLen];omega) (by omega) (by simp;omega) ?_;intro v1 w1 Y H al;have E:Below w.heap.size wr w1:=(D.trans ((Below.refl w.heap.size d).alloc au _)).grown H (by simp;omega) af.o));have V:gz w w1 v1 (xs.take k++[x]):=gz.add (by rw[B.o];exact C.o) aa.o ag.o ⟨m1,m2⟩ (λk b ao=>(H.block k (by simp;omega) (λe=>ao e.symm)).trans (Below.heap_alloc _ _ _ b)) (by rw[B.o];exact Y);have ac:=Hm V;have am:=hb.trans E;clear V Y H al;go_wp2;go_roundw
   case rel=>exact⟨k+1,by omega,by go_num,by rw[ic N.o];exact ac.o,am⟩
   case measure=>simp[RowKit.intOf];omega
  ·have ad:Hl (gz w wr u3 xs):=Hm (by
    have h:=L.o;rw[List.take_of_length_le (by rw[z.len];omega)]at h;exact h)
   go_wp2;go_ret;exact⟨⟨_,rfl,ad.o⟩,hb⟩
def sg (s:Int)(l:List Ent):List Ent:=l.map λx=>⟨x.row,s*x.count⟩
def vz (M rest:List Ent)(ok:Bool)(zs:List Ent):Prop:=
 ∃ws,M=ws++rest/\(ok=true->zs=jw ws/\ ∀x∈ws, -65536<=x.count/\x.count<=65536)/\(ok=false-> ∃x∈ws,x.count < -65536\/65536<x.count)
theorem vz.start (M:List Ent):vz M M true []:=⟨[],rfl,λ_=>⟨rfl,by simp⟩,λh=>by cases h⟩
theorem vz.step {M rest c zs:List Ent}{x:Ent}(h:vz M rest true zs)(e:rest=x::c):vz M c (NI zs x.row x.count).1 (NI zs x.row x.count).2:=by
 obtain⟨ws,d,f,_⟩:=h;obtain⟨g,i⟩:=f rfl;subst g e;refine⟨ws++[x],by rw[d];simp,λq=>?_,λq=>?_⟩
 ·rw[NI]at q⊢
  split at q
  ·cases q
  ·rename_i b;rw[if_neg b];refine⟨?_,λy a=>?_⟩
   ·show(if x.count=0 then jw ws else jw ws++[⟨x.row,x.count⟩])=jw (ws++[x]);rw[show jw (ws++[x])=jw ws++jw [x] from List.filter_append ..]
    split
    ·rename_i q;simp[jw,q]
    ·rename_i q;simp[jw,q]
   ·rcases List.mem_append.1 a with a|a
    ·exact i y a
    ·simp at a;subst a;omega
 ·rw[NI]at q
  split at q
  ·rename_i b;exact⟨x,by simp,b⟩
  ·cases q
theorem vI: ∀(l:List Ent) (m:Nat),(∃x∈l,x.count < -65536\/65536<x.count)->jv m l=true
 | [],m,h=>by simp at h
 |x::l,m,h=>by
  rw[jv];by_cases q:x.count=0
  ·rw[if_pos q];refine vI l m ?_;obtain⟨y,a,h⟩:=h;rcases List.mem_cons.1 a with rfl|a
   ·omega
   ·exact⟨y,a,h⟩
  ·rw[if_neg q];obtain⟨y,a,h⟩:=h;rcases List.mem_cons.1 a with rfl|a
   ·rcases h with h|h<;>simp[h]
   ·rw[vI l (m+1) ⟨y,a,h⟩];simp
def N7 (M:List Ent):Int×List Ent:=if jv 0 M=true then(2,[]) else(0,jw M)
theorem vz.bad {M rest zs:List Ent}(h:vz M rest false zs):N7 M=(2,[]):=by
 obtain⟨ws,a,_,b⟩:=h;obtain⟨x,c,h⟩:=b rfl;rw[N7,if_pos (vI _ _ ⟨x,by rw[a];simp[c],h⟩)]
def GG:List Ent->Int
 | []=>0
 |x::l=>x.count+GG l
theorem JF (l:List Ent)(x:Ent):GG (l++[x])=GG l+x.count:=by
 induction l with
 |nil=>simp[GG]
 |cons y l a=>rw[List.cons_append,GG,GG,a];omega
def JY (b:List Ent)(r:List Val)(k q:Nat)(n:Int):Prop:= ∃a,b.drop k=a++b.drop q/\a.length=q-k/\(∀x∈a,x.row=r)/\n=GG a/\ -65536*((q:Int)-k)<=n/\n<=65536*((q:Int)-k)
theorem JY.start (a:List Ent)(r:List Val)(k:Nat):JY a r k k 0:=⟨[],by simp,by simp,by simp,rfl,by omega,by omega⟩
theorem JY.step {b:List Ent}{r:List Val}{k q:Nat}{n:Int}(h:JY b r k q n)(o:k<=q){y:Ent}(g:b.drop q=y::b.drop (q+1))(f:y.row=r)(hb: -65536<=y.count/\y.count<=65536):JY b r k (q+1) (n+y.count):=by
 obtain⟨i,c,j,d,e,l,m⟩:=h;refine⟨i++[y],by rw[c,g];simp,by simp;omega,λx a=>?_,by rw[JF,e],by omega,by omega⟩;rcases List.mem_append.1 a with a|a
 ·exact d x a
 ·simp at a;subst a;exact f
structure Num (w:World) (gb:Nat) (A:Option Addr) (n c:Nat) (l:List Int) (i:Nat):Prop where
 c0:w.cell? ⟨gb,0,none⟩=some (.slice A n c)
 c1:w.cell? ⟨gb,1,none⟩=some (.int .i64 (i:Int))
 blk:iy w gb 64 2
 lst:Sl w (λk=>k<gb) A n c l
 le:i<=n
 nn:n<=1048576
theorem Num.lt {w:World}{gb:Nat}{A:Option Addr}{n c:Nat}{l:List Int}{i:Nat}(h:Num w gb A n c l i):gb<w.heap.size:=h.blk.lt
theorem Num.inn {w:World}{gb:Nat}{A:Option Addr}{n c:Nat}{l:List Int}{i:Nat}(h:Num w gb A n c l i):In w A n c l:=Sl.mono (λk a=>Nat.lt_trans a h.lt) h.lst
theorem Num.below {w w':World}{gb:Nat}{A:Option Addr}{n c:Nat}{l:List Int}{i:Nat}(h:Num w gb A n c l i)(hb:Below w.heap.size w w'):Num w' gb A n c l i:=
 ⟨fO hb h.lt h.c0,fO hb h.lt h.c1,h.blk.below hb,h.lst.keep ((Same.below hb).sub λk a=>Nat.lt_trans a h.lt),h.le,h.nn⟩
theorem Num.grown {w w':World}{gb:Nat}{A:Option Addr}{n c:Nat}{l:List Int}{i:Nat}{row:Option Nat}(h:Num w gb A n c l i)(g:w.grownBy w' row)(m: ∀k,row=some k->gb<k):Num w' gb A n c l i:=by
 have hs: ∀k,k<=gb->w'.heap[k]?=w.heap[k]?:=λk b=>g.block k (Nat.lt_of_le_of_lt b h.lt) λe=>by have:=m k e.symm;omega
 obtain⟨d,f,j⟩:=h.blk;exact⟨(World.cell?_of_block (a:=⟨gb,0,none⟩) (hs gb (Nat.le_refl _))).trans h.c0,(World.cell?_of_block (a:=⟨gb,1,none⟩) (hs gb (Nat.le_refl _))).trans h.c1,⟨d,(hs gb (Nat.le_refl _)).trans f,j⟩,h.lst.keep λk b=>hs k (Nat.le_of_lt b),h.le,h.nn⟩
theorem Num.made (w:World)(A:Option Addr)(n c:Nat)(l:List Int)(h:In w A n c l)(a:n<=1048576):Num (w.alloc (.cells #[.slice A n c,.int .i64 0] 64)) w.heap.size A n c l 0:=
 ⟨wY (heap_alloc_new w _) 0 _ rfl,wY (heap_alloc_new w _) 1 _ rfl,iy.made w _ _ 2 rfl,h.keep (Same.below fI),Nat.zero_le _,a⟩
theorem iO {w:World}{b o:Nat}{v:Value}:w.grownBy (w.setCell ⟨b,o,none⟩ v) (some b):=
 ⟨rfl,rfl,rfl,by simp,λk _ a=>Below.heap_setCell _ _ _ k (λe=>a (by rw[show k=b from e]))⟩
theorem jA (w:World)(gb:Nat)(A:Option Addr)(n c:Nat)(l:List Int)(i:Nat)(h:Num w gb A n c l i)(m:Int)(D:m<=1099511627776):
  Calls Tryz.prog 32 #[.pointer (some ⟨gb,0,none⟩),.int .i64 m] w
   λe w'=>(∃v F,e=.returned (.int .i64 v)/\0<=v/\(1<=m->v<m)/\Num w' gb A n c l F)/\w.grownBy w' (some gb):=by
 have c0:=h.c0;have c1:=h.c1;have f1:=h.blk.frozen 1;have P:=h.nn;have H:=Hm h;clear h;by_cases hi:n<=i
 ·have q:decide (n<=i)=true:=by simp;omega
  go_enter Tryz.func32,Tryz.ntmps32;go_wp2;go_quiet (fail);go_wp2;all_goals(try(exfalso;go_light;simp_all;done));go_ret;exact⟨⟨0,i,rfl,by omega,by omega,H.o.below (below_drewN (Below.refl _ _) _)⟩,Below.grows (below_drewN (Below.refl _ _) _) _⟩
 have q:decide (n<=i)=false:=by simp;omega
 by_cases O:m<1
 ·have J:decide (m<1)=true:=by simp;omega
  go_enter Tryz.func32,Tryz.ntmps32;go_wp2;go_quiet (fail);go_wp2;all_goals(try(exfalso;go_light;simp_all;done));go_ret;exact⟨⟨0,i,rfl,by omega,by omega,H.o.below (below_drewN (Below.refl _ _) _)⟩,Below.grows (below_drewN (Below.refl _ _) _) _⟩
 have J:decide (m<1)=false:=by simp;omega
 obtain⟨b,off,x,rfl,M,K,s,t⟩:=H.o.inn.int (k:=i) (by omega);have Q:IntKind.i64.wrap ((i:Int)+1)=(i:Int)+1:=IntWalk.i64_in _ (by omega);have R:IntKind.i64.wrap ((i:Int)+1-1)=(i:Int):=by rw[show(i:Int)+1-1=i by omega];exact IntWalk.i64_in _ (by omega)
 have W:IntKind.i64.wrap (i:Int)=(i:Int):=IntWalk.i64_in _ (by omega);have S:(i:Int)<(n:Int):=by omega
 have T:(0:Int)<=(i:Int):=by omega
 have U:i<n:=by omega
 have E:b≠gb:=λe=>by
  have C:=H.o.lst.2.2.2.2 (by omega);obtain⟨L,X,f,N,_⟩:=C;injection f with f;injection f with t e2;subst t;omega
 have G:0<=x % m:=Int.emod_nonneg _ (by omega);have I:x % m<m:=Int.emod_lt_of_pos _ (by omega);go_enter Tryz.func32,Tryz.ntmps32;go_wp2;go_quiet (fail);go_wp2;obtain⟨a,d⟩: ∃a,a=(w.drewN nq).setCell ⟨gb,1,none⟩ (.int .i64 ((i:Int)+1)):=⟨_,rfl⟩;have p:a.cell? ⟨gb,0,none⟩=some (.slice (some ⟨b,off,none⟩) n c):=by rw[d];exact fM c0 (.inr (by omega))
 have r:a.cell? ⟨gb,1,none⟩=some (.int .i64 ((i:Int)+1)):=by rw[d];exact iC (w:=w.drewN nq) c1
 have B:a.cell? ⟨b,off+i,none⟩=some (.int .i64 x):=by rw[d];exact fM s (.inl E)
 have g:w.grownBy a (some gb):=by rw[d];exact(Below.grows (below_drewN (Below.refl _ w) nq) _).trans iO
 have u: ∀k,k<gb->a.heap[k]?=w.heap[k]?:=λk j=>g.block k (Nat.lt_trans j H.o.lt) (λe=>by injection e with e;omega);have z:Hl (Num a gb (some ⟨b,off,none⟩) n c l (i+1)):=Hm ⟨p,by simpa using r,by rw[d];exact(H.o.blk.below (below_drewN (Below.refl _ w) nq)).set _ _ _,H.o.lst.keep λk j=>u k j,by omega,H.o.nn⟩;have y:=Hm g;rw[<-d];clear d g u c0 c1 s f1;go_region_held3 (λV=>V.cell? ⟨gb,0,none⟩=some (.slice (some ⟨b,off,none⟩) n c)/\V.cell? ⟨gb,1,none⟩=some (.int .i64 ((i:Int)+1))/\V.cell? ⟨b,off+i,none⟩=some (.int .i64 x)) (first|exact⟨p,r,B⟩) (first|(go_at_call 12;refine(Gs x m (by omega) D _).mono ?_;rintro e w' ⟨rfl,rfl⟩));go_wp2;go_ret;exact⟨⟨x % m,i+1,rfl,G,λ_=>I,z.o.below (Below.refl _ _).drew⟩,y.o.trans (Below.grows (Below.refl _ _).drew _)⟩
def Off (w:World){α:Type}[Rep α](gb:Nat)(A:Option Addr)(n c:Nat)(xs:List α):Prop:=Sl w (λk=>k<w.heap.size/\k≠gb) A n c xs
section
variable {α:Type}[Rep α]{w w':World}{gb:Nat}{A:Option Addr}{n c:Nat}{xs:List α}
theorem Off.inn (h:Off w gb A n c xs):In w A n c xs:=Sl.mono (λk a=>a.1) h
theorem Off.grown (h:Off w gb A n c xs)(b:w.grownBy w' (some gb)):Off w' gb A n c xs:=
 (h.keep (λk a=>b.block k a.1 λe=>a.2 (by injection e))).mono λk a=>⟨Nat.lt_of_lt_of_le a.1 b.size,a.2⟩
theorem Off.below (h:Off w gb A n c xs)(hb:Below w.heap.size w w'):Off w' gb A n c xs:=h.grown (Below.grows hb _)
end
theorem kM {B gb:Nat}{a w w':World}(h:Below B a w)(c:w.grownBy w' (some gb))(b:B<=w.heap.size)(d:B<=gb):Below B a w':=h.grown c b λk e=>by injection e with e;omega
theorem yZ: ∀ks:List Int,ks.flatMap Flat.cs=ks.map (Value.int .i64)
 | []=>rfl
 |x::l=>by rw[List.flatMap_cons,List.map_cons,yZ l];rfl
theorem wC (w:World):Calls Tryz.prog 99 #[] w λe w'=>(∃l,e=.returned (.slice (some ⟨w.heap.size,0,none⟩) 16 16)/\In w' (some ⟨w.heap.size,0,none⟩) 16 16 l/\ ∀x∈l,(0:Int)<=x/\x<=575999999)/\Below w.heap.size w w':=by
 go_enter Tryz.func99,Tryz.ntmps99;go_wp2;go_loopw [2] (λi wr=> ∃(k:Nat) (a:Array Value),k<=16/\i=.int .i64 k/\wr.heap[w.heap.size]?=some (.cells a 3 (0,0))/\a.size=16/\(∀j,j<16-> ∃x:Int,a[j]?=some (.int .i64 x)/\0<=x/\x<=153000/\(k<=j->x<=9000))/\Below w.heap.size w wr) (λi _=>16-(intOf i).toNat)
 case atStart=>
  refine⟨0,_,by omega,rfl,heap_alloc_new w _,rfl,λj b=>?_,fI⟩;have:j=0\/j=1\/j=2\/j=3\/j=4\/j=5\/j=6\/j=7\/j=8\/j=9\/j=10\/j=11\/j=12\/j=13\/j=14\/j=15:=by omega
  rcases this with rfl|rfl|rfl|rfl|rfl|rfl|rfl|rfl|rfl|rfl|rfl|rfl|rfl|rfl|rfl|rfl<;>exact⟨_,rfl,by decide,by decide,λ_=>by decide⟩
 case round=>
  obtain⟨k,a,L,rfl,f,n,s,hb⟩:=hrel;have g:=Hm s;have p:=Hm hb;have r:=Hm f;have m:=Hm n;clear s hb;by_cases H:k<16
  ·obtain⟨x,d,O,_,z⟩:=g.o k H;have z:=z (Nat.le_refl _);have M:(0:Int)<=(k:Int):=by omega
   have N:(k:Int)<16:=by omega
   have c0:wr.cell? ⟨w.heap.size,k,none⟩=some (.int .i64 x):=by rw[cell_of_row wr w.heap.size k a 3 (0,0) f];exact d
   have K:wr.frozen? ⟨w.heap.size,k,none⟩=false:=frozen_of_row wr w.heap.size k a 3 f;have q:IntKind.i64.wrap (x+144000)=x+144000:=IntWalk.i64_in _ (by omega);clear f n d;go_wp2;go_roundw
   case rel=>
    refine⟨k+1,a.setIfInBounds k (.int .i64 (x+144000)),by omega,by go_num,by simp[World.setCell,Array.getElem?_modify,r.o],by simp[m.o],λj b=>?_,p.o.setCell (Nat.le_refl _) _⟩;by_cases t:k=j
    ·subst t;exact⟨x+144000,by rw[Array.getElem?_setIfInBounds_self];simp[m.o,b],by omega,by omega,λh=>by omega⟩
    ·obtain⟨y,c,A,B,J⟩:=g.o j b;exact⟨y,by rw[Array.getElem?_setIfInBounds_ne t];exact c,A,B,λh=>J (by omega)⟩
   case measure=>simp[intOf];omega
  ·have C:Hl (a.toList=(a.toList.map intOf).map (Value.int .i64)):=Hm (by
    apply List.ext_getElem?;intro j;rw[List.getElem?_map,List.getElem?_map,Array.getElem?_toList];by_cases b:j<16
    ·obtain⟨y,c,_⟩:=g.o j b;rw[c];rfl
    ·rw[Array.getElem?_eq_none (by omega)];rfl)
   have D:Hl (∀x∈a.toList.map intOf,(0:Int)<=x/\x<=575999999):=Hm (by
    intro x d;obtain⟨v,I,rfl⟩:=List.mem_map.1 d;obtain⟨j,b,rfl⟩:=List.getElem_of_mem I;rw[Array.length_toList,m.o]at b;obtain⟨y,c,A,B,_⟩:=g.o j b;rw[Array.getElem?_eq_getElem (by omega)]at c;injection c with c;rw[Array.getElem_toList,c];show 0<=y/\y<=_;omega)
   have E:k=16:=by omega
   subst E;clear f n;go_wp2;go_ret;have F:=C.o;have u:=D.o;have G:(a.toList.map intOf).length=16:=by simp[m.o]
   generalize a.toList.map intOf=l at*;refine⟨⟨l,rfl,l6 r.o ?_ G (by decide),u⟩,p.o⟩;have h:=rW wr (λk=>k<wr.heap.size) (xs:=l) (λx d=>by have:=u x d;exact⟨by omega,by omega⟩);rw[yZ]at h;rw[F];exact h
theorem OwnEnts.o {w w':World}{S:Nat->Prop}{v:Value}{zs:List Ent}(h:OwnEnts w w' S v zs)(a: ∀k,S k->k<w'.heap.size): ∃A c,v=.slice A zs.length c/\In w' A zs.length c zs:=h.sl a
end Go.Proofs.YtopjjlmfilgngaaGreatDoor
