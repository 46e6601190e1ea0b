/-
  A map from ints to slices of entries that the call has made ('m[d] = append(m[d], x)'): the groups of a list. No program is in sight.
-/
import Derived.Test.YthnelebakkggjaaGreatDoorGaj
namespace Go.Proofs.YthnelebakkggjaaGreatDoor
open Go.RowKit Go.Maps
set_option linter.unusedSimpArgs false
set_option linter.unusedVariables false
def RV (v:Value):Option (DataW Value×List MemPlace):=some (.held v,[])
def sM (P:Program)(K:TypeId)(c w:World)(b:Nat)(g:Ent->Int)(zs:List Ent):Prop:=
 ∃(D:DataW Value) (f:Int->Value),w.ownsMap P K RV b zs.length D/\c.heap.size<=b/\Maps.IsMap D/\
  (∀d,D.atKey (.int .i64 d) (.held (.slice none 0 0))=.held (f d))/\
  (∀d,Maps.has D (.int .i64 d)=true↔d∈zs.map g)/\
  (∀d,fw c w (f d) (zs.filter λx=>g x==d))/\
  (∀d a,d≠a->(f d).ownBlock=none\/(f d).ownBlock≠(f a).ownBlock)
def MZ (P:Program)(t K:TypeId)(f w:World)(b:Nat)(g:Ent->Int)(zs:List Ent)(d:Int)(v:Value):Prop:=
 ∀(c:World) (a:Value) (x:Ent),w.grownBy c v.ownBlock->g x=d->fw f c a ((zs.filter λy=>g y==d)++[x])->(a.ownBlock=v.ownBlock\/ ∃k,a.ownBlock=some k/\w.heap.size<=k)->
  ∃e,(Instr.mapUpdate t (.map (some b)) (.int .i64 d) a).run P c=.ok () e/\sM P K f e b g (zs++[x])/\c.grownBy e (some b)
theorem fw.nil (w w':World):fw w w' (.slice none 0 0) []:=⟨[],World.ownsRow_nil _ _ _ _,rfl⟩
theorem fw.kept {g w f:World}{v:Value}{zs:List Ent}{row:Option Nat}(h:fw g w v zs)(i:w.grownBy f row)(l:v.ownBlock=none\/v.ownBlock≠row)(m: ∀k,row=some k->¬jQ w 67 k):fw g f v zs:=by
 obtain⟨j,a,b⟩:=h;have hs: ∀k,jQ w 67 k->f.heap[k]?=w.heap[k]?:=λk d=>i.block k d.lt λe=>m k e.symm d;have n:Same (New g w 67) w f:=λk d=>hs k d.2;exact⟨j,a.kept i l,(b.keep n).mono λk d=>⟨d.1,by obtain⟨c,o⟩:=d.2;exact⟨c,(hs k d.2).trans o⟩⟩⟩
theorem fw.row {c w:World}{v:Value}{zs:List Ent}(h:fw c w v zs){k:Nat}(b:v.ownBlock=some k):c.heap.size<=k/\k<w.heap.size/\jQ w 55 k:=by
 obtain⟨d,a,_⟩:=h;exact⟨(a.lt k b).1,(a.lt k b).2,Jt a b⟩
theorem xJ {P:Program}{K:TypeId}{w:World}{R:Value->Option (DataW Value×List MemPlace)}{b n:Nat}{D:DataW Value}(h:w.ownsMap P K R b n D){t:TypeId}(d:jQ w t b):False:=by
 obtain⟨es,clock,hb,_⟩:=h;obtain⟨c,a⟩:=d;rw[hb]at a;cases a
section
variable {P:Program}{t K e:TypeId}{i w:World}{a:Nat}{g:Ent->Int}{zs:List Ent}
theorem sM.made (P:Program)(K:TypeId)(i w:World)(g:Ent->Int)(h:i.heap.size<=w.heap.size):sM P K i (w.alloc (.map #[] 0)) w.heap.size g []:=
 ⟨.map [],λ_=>.slice none 0 0,World.ownsMap_made _ _ _ _,h,Maps.isMap_empty,λ_=>rfl,λd=>by simp[Maps.has],λ_=>fw.nil _ _,λ_ _ _=>.inl rfl⟩
theorem sM.lt (h:sM P K i w a g zs):a<w.heap.size:=by
 obtain⟨D,f,b,_⟩:=h;exact b.lt
theorem sM.base (h:sM P K i w a g zs):i.heap.size<=a:=by
 obtain⟨D,f,c,b,_⟩:=h;exact b
theorem sM.rebase {b:World}(h:sM P K i w a g zs)(hb:b.heap.size<=i.heap.size):sM P K b w a g zs:=by
 obtain⟨D,f,c,j,k,l,m,n,o⟩:=h;exact⟨D,f,c,Nat.le_trans hb j,k,l,m,λd=>(n d).base hb,o⟩
theorem sM.b {j:World}(h:sM P K i w a g zs)(hb:Below w.heap.size w j):sM P K i j a g zs:=by
 obtain⟨D,f,c,k,l,m,n,o,p⟩:=h;have q:=c.lt;obtain⟨es,clock,r,s⟩:=c;exact⟨D,f,⟨es,clock,(hb.block a q).trans r,s⟩,k,l,m,n,λd=>(o d).b hb,p⟩
theorem sM.look (h:sM P K i w a g zs)(s:P.underlying t=some (.map K e))(B:P.underlying K=some (.int .i64))(hz: ∀V,(zeroValue e).run P V=.ok (.slice none 0 0) V){d:Int}(hd:jP d)(hn:zs.length<maxLen):
  ∃v,(∀V,V.heap[a]?=w.heap[a]?->(Instr.lookup t (.map (some a)) (.int .i64 d) false).run P V=.ok v V)/\fw i w v (zs.filter λx=>g x==d)/\MZ P t K i w a g zs d v:=by
 obtain⟨D,f,r,W,z,I,X,q,A⟩:=h;have ad:(Lit.int .i64 d).wf=true:=WalkArith.wf_i64 hd;have N:keyOf P K (.int .i64 d)=some (.int .i64 d):=keyOf_int_mk B ad;have O:WideAt.IsKeyLit (.int .i64 d):=trivial;have G: ∀V,V.heap[a]?=w.heap[a]?->(Instr.lookup t (.map (some a)) (.int .i64 d) false).run P V=.ok (f d) V:=λV Y=>by
  have U:V.ownsMap P K RV a zs.length D:=by
   obtain⟨es,clock,k1,k2⟩:=r;exact⟨es,clock,Y.trans k1,k2⟩
  obtain⟨v,ps,G,R⟩:=U.lookup (int_keyed B) s (hz V) (zd:=.held (.slice none 0 0)) (zp:=[]) rfl N;have j:=I d;simp only[RV,Option.some.injEq,Prod.mk.injEq]at R;rw[<-R.1]at j;injection j with j;rw[<-j];exact G
 refine⟨_,G,q d,?_⟩;intro S n x M y L aa;have ae:=r.lt;have Z:some a≠(f d).ownBlock:=λj=>xJ r ((q d).row j.symm).2.2;have H:=r.kept M Z;obtain⟨T,ab,o2,g2⟩:=H.update (int_keyed B) s hn (val:=n) (d:=.held n) (ps:=[]) N rfl;have E: ∀k t,some a=some k->¬jQ S t k:=λk t j o=>by
  cases j;exact xJ H o
 have ac: ∀k,(f d).ownBlock=some k->¬jQ w 67 k:=λk o s=>jQ.ne ((q d).row o).2.2 s (by decide) rfl;have Q: ∀{u:Value} {l:List Ent},fw i S u l->u.ownBlock=none\/u.ownBlock≠some a:=λ{u l} hu=>by
  by_cases hb:u.ownBlock=some a
  ·exact absurd (hu.row hb).2.2 (E a _ rfl)
  ·exact .inr hb
 refine⟨T,ab,⟨_,λb=>if b=d then n else f b,by rw[List.length_append];exact o2,W,z.put _ _,λb=>?_,λb=>?_,λb=>?_,λb p F=>?_⟩,g2⟩
 ·show _=DataW.held (if b=d then n else f b);by_cases m:b=d
  ·subst m;rw[if_pos rfl];exact Maps.atKey_put_same z O _ _
  ·rw[if_neg m,<-I b];exact Maps.atKey_put_other (λj=>m (by injection j)) _ _
 ·rw[List.map_append,List.mem_append];by_cases m:b=d
  ·subst m;rw[Maps.has_put_same z O];simp[y]
  ·rw[Maps.has_put_other (λj=>m (by injection j)),X b];simp[y,m,λe:d=b=>m e.symm]
 ·show fw i T (if b=d then n else f b) _;rw[List.filter_append];by_cases m:b=d
  ·subst m;rw[if_pos rfl,show [x].filter (λx=>g x==b)=[x] by simp[y]];exact L.kept g2 (Q L) (λk j=>E k _ j)
  ·rw[if_neg m,show [x].filter (λx=>g x==b)=[] by simp[y];exact λe=>m e.symm,List.append_nil];have o:=(q b).kept M (A b d m) ac;exact o.kept g2 (Q o) (λk j=>E k _ j)
 ·have other: ∀c,c≠d->(f c).ownBlock=none\/(f c).ownBlock≠n.ownBlock:=λc hc=>by
   rcases aa with h|⟨k,h,o⟩
   ·rw[h];exact A c d hc
   ·by_cases hb:(f c).ownBlock=some k
    ·have:=((q c).row hb).2.1;omega
    ·rw[h];exact .inr hb
  show(if b=d then n else f b).ownBlock=none\/(if b=d then n else f b).ownBlock≠(if p=d then n else f p).ownBlock;by_cases C:b=d
  ·subst C;rw[if_pos rfl,if_neg (λj=>F j.symm)];rcases other p (λj=>F j.symm) with h|h
   ·cases af:n.ownBlock with
    |none=>exact .inl rfl
    |some k=>exact .inr (by rw[h];simp)
   ·exact .inr λj=>h j.symm
  ·rw[if_neg C];by_cases J:p=d
   ·subst J;rw[if_pos rfl];exact other b C
   ·rw[if_neg J];exact A b p F
theorem sM.get (h:sM P K i w a g zs)(q:P.underlying t=some (.map K e))(c:P.underlying K=some (.int .i64))(r:(zeroValue e).run P w=.ok (.slice none 0 0) w){d:Int}(hd:jP d):
  ∃v,(Instr.lookup t (.map (some a)) (.int .i64 d) false).run P w=.ok v w/\fw i w v (zs.filter λx=>g x==d):=by
 obtain⟨D,f,l,s,u,m,y,n,z⟩:=h;have o:keyOf P K (.int .i64 d)=some (.int .i64 d):=keyOf_int_mk c (WalkArith.wf_i64 hd);obtain⟨v,A,p,j⟩:=l.lookup (int_keyed c) q r (zd:=.held (.slice none 0 0)) (zp:=[]) rfl o;have k:v=f d:=by
  have b:=m d;simp only[RV,Option.some.injEq,Prod.mk.injEq]at j;rw[<-j.1]at b;injection b
 subst k;exact⟨_,p,n d⟩
end
theorem Below.grows {w w':World}(h:Below w.heap.size w w')(row:Option Nat):w.grownBy w' row:=⟨h.os,h.tape,h.output,h.size,λk a _=>h.block k a⟩
end Go.Proofs.YthnelebakkggjaaGreatDoor
