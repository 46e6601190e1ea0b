/-
  A map from ints to slices of entries that the call has made ('m[d] = append(m[d], x)'): the groups of a list. No program is in sight.
-/
import Derived.Maps.Own
import Derived.Maps.OwnOps
import Derived.Maps.Views
import Derived.Test.YtopjjlmfilgngaaGreatDoorGak
import Derived.Test.YtopjjlmfilgngaaGreatDoorGal
namespace Go.Proofs.YtopjjlmfilgngaaGreatDoor
open Go.RowKit Go.Maps
set_option linter.unusedSimpArgs false
set_option linter.unusedVariables false
def RV (v:Value):Option (DataW Value×List MemPlace):=some (.held v,[])
def qU (P:Program)(K:TypeId)(w0 w:World)(b:Nat)(g:Ent->Int)(zs:List Ent):Prop:=
 ∃(D:DataW Value) (f:Int->Value),w.ownsMap P K RV b zs.length D/\w0.heap.size<=b/\Maps.IsMap D/\
  (∀d,D.atKey (.int .i64 d) (.held (.slice none 0 0))=.held (f d))/\
  (∀d,Maps.has D (.int .i64 d)=true↔d∈zs.map g)/\
  (∀d,aD w0 w (f d) (zs.filter λx=>g x==d))/\
  (∀d d',d≠d'->(f d).ownBlock=none\/(f d).ownBlock≠(f d').ownBlock)
def UT (P:Program)(t K:TypeId)(w0 w:World)(b:Nat)(g:Ent->Int)(zs:List Ent)(d:Int)(v:Value):Prop:=
 ∀(w1:World) (v':Value) (x:Ent),w.grownBy w1 v.ownBlock->g x=d->aD w0 w1 v' ((zs.filter λy=>g y==d)++[x])->(v'.ownBlock=v.ownBlock\/ ∃k,v'.ownBlock=some k/\w.heap.size<=k)->
  ∃w2,(Instr.mapUpdate t (.map (some b)) (.int .i64 d) v').run P w1=.ok () w2/\qU P K w0 w2 b g (zs++[x])/\w1.grownBy w2 (some b)
theorem aD.nil (w w':World):aD w w' (.slice none 0 0) []:=⟨[],World.ownsRow_nil _ _ _ _,rfl⟩
theorem aD.kept {w0 w w1:World}{v:Value}{zs:List Ent}{row:Option Nat}(h:aD w0 w v zs)(hg:w.grownBy w1 row)(h1:v.ownBlock=none\/v.ownBlock≠row)(h2: ∀k,row=some k->¬dm w 36 k):aD w0 w1 v zs:=by
 obtain ⟨cs,a,b⟩:=h;have hs: ∀k,dm w 36 k->w1.heap[k]?=w.heap[k]?:=λk hk=>hg.block k hk.lt λe=>h2 k e.symm hk;have hS:Same (New w0 w 36) w w1:=λk hk=>hs k hk.2;exact ⟨cs,a.kept hg h1,(b.keep hS).mono λk hk=>⟨hk.1,by obtain ⟨c,hc⟩:=hk.2;exact ⟨c,(hs k hk.2).trans hc⟩⟩⟩
theorem aD.row {w0 w:World}{v:Value}{zs:List Ent}(h:aD w0 w v zs){k:Nat}(hk:v.ownBlock=some k):w0.heap.size<=k/\k<w.heap.size/\dm w 50 k:=by
 obtain ⟨cs,a,_⟩:=h;exact ⟨(a.lt k hk).1,(a.lt k hk).2,Ot a hk⟩
theorem xz {P:Program}{K:TypeId}{w:World}{R:Value->Option (DataW Value×List MemPlace)}{b n:Nat}{D:DataW Value}(h:w.ownsMap P K R b n D){t:TypeId}(ht:dm w t b):False:=by
 obtain ⟨es,clock,hb,_⟩:=h;obtain ⟨c,hc⟩:=ht;rw[hb]at hc;cases hc
section
variable {P:Program}{t K e:TypeId}{w0 w:World}{b:Nat}{g:Ent->Int}{zs:List Ent}
theorem qU.made (P:Program)(K:TypeId)(w0 w:World)(g:Ent->Int)(h:w0.heap.size<=w.heap.size):qU P K w0 (w.alloc (.map #[] 0)) w.heap.size g []:=
 ⟨.map [],λ_=>.slice none 0 0,World.ownsMap_made _ _ _ _,h,Maps.isMap_empty,λ_=>rfl,λd=>by simp[Maps.has],λ_=>aD.nil _ _,λ_ _ _=>.inl rfl⟩
theorem qU.lt (h:qU P K w0 w b g zs):b<w.heap.size:=by
 obtain ⟨D,f,h1,_⟩:=h;exact h1.lt
theorem qU.base (h:qU P K w0 w b g zs):w0.heap.size<=b:=by
 obtain ⟨D,f,h1,h2,_⟩:=h;exact h2
theorem qU.rebase {w00:World}(h:qU P K w0 w b g zs)(hb:w00.heap.size<=w0.heap.size):qU P K w00 w b g zs:=by
 obtain ⟨D,f,h1,h2,h3,h4,h5,h6,h7⟩:=h;exact ⟨D,f,h1,Nat.le_trans hb h2,h3,h4,h5,λd=>(h6 d).base hb,h7⟩
theorem qU.below {w1:World}(h:qU P K w0 w b g zs)(hb:Below w.heap.size w w1):qU P K w0 w1 b g zs:=by
 obtain ⟨D,f,h1,h2,h3,h4,h5,h6,h7⟩:=h;have hl:=h1.lt;obtain ⟨es,clock,k1,k2⟩:=h1;exact ⟨D,f,⟨es,clock,(hb.block b hl).trans k1,k2⟩,h2,h3,h4,h5,λd=>(h6 d).below hb,h7⟩
theorem qU.look (h:qU P K w0 w b g zs)(ht:P.underlying t=some (.map K e))(hK:P.underlying K=some (.int .i64))(hz: ∀V,(zeroValue e).run P V=.ok (.slice none 0 0) V){d:Int}(hd:eZ d)(hn:zs.length<maxLen):
  ∃v,(∀V,V.heap[b]?=w.heap[b]?->(Instr.lookup t (.map (some b)) (.int .i64 d) false).run P V=.ok v V)/\aD w0 w v (zs.filter λx=>g x==d)/\UT P t K w0 w b g zs d v:=by
 obtain ⟨D,f,h1,h2,h3,h4,h5,h6,h7⟩:=h;have hwf:(Lit.int .i64 d).wf=true:=WalkArith.wf_i64 hd;have hkey:keyOf P K (.int .i64 d)=some (.int .i64 d):=keyOf_int_mk hK hwf;have QT:WideAt.IsKeyLit (.int .i64 d):=trivial;have hrun: ∀V,V.heap[b]?=w.heap[b]?->(Instr.lookup t (.map (some b)) (.int .i64 d) false).run P V=.ok (f d) V:=λV hV=>by
  have h1V:V.ownsMap P K RV b zs.length D:=by
   obtain ⟨es,clock,k1,k2⟩:=h1;exact ⟨es,clock,hV.trans k1,k2⟩
  obtain ⟨v,ps,hrun,hv⟩:=h1V.lookup (int_keyed hK) ht (hz V) (zd:=.held (.slice none 0 0)) (zp:=[]) rfl hkey;have e1:=h4 d;simp only[RV,Option.some.injEq,Prod.mk.injEq]at hv;rw[<-hv.1]at e1;injection e1 with e1;rw[<-e1];exact hrun
 refine ⟨_,hrun,h6 d,?_⟩;intro w1 v' x hg hx hf hloc;have hbl:=h1.lt;have hbv:some b≠(f d).ownBlock:=λe1=>xz h1 ((h6 d).row e1.symm).2.2;have h1':=h1.kept hg hbv;obtain ⟨w2,zn,o2,g2⟩:=h1'.update (int_keyed hK) ht hn (val:=v') (d:=.held v') (ps:=[]) hkey rfl;have hmb: ∀k t,some b=some k->¬dm w1 t k:=λk t e1 hk=>by
  cases e1;exact xz h1' hk
 have hvt: ∀k,(f d).ownBlock=some k->¬dm w 36 k:=λk hk ht=>dm.ne ((h6 d).row hk).2.2 ht (by decide) rfl;have hnot: ∀{u:Value} {l:List Ent},aD w0 w1 u l->u.ownBlock=none\/u.ownBlock≠some b:=λ{u l} hu=>by
  by_cases hb:u.ownBlock=some b
  ·exact absurd (hu.row hb).2.2 (hmb b _ rfl)
  ·exact .inr hb
 refine ⟨w2,zn,⟨_,λd'=>if d'=d then v' else f d',by rw[List.length_append];exact o2,h2,h3.put _ _,λd'=>?_,λd'=>?_,λd'=>?_,λd' d'' hne=>?_⟩,g2⟩
 ·show _=DataW.held (if d'=d then v' else f d');by_cases hdd:d'=d
  ·subst hdd;rw[if_pos rfl];exact Maps.atKey_put_same h3 QT _ _
  ·rw[if_neg hdd,<-h4 d'];exact Maps.atKey_put_other (λe1=>hdd (by injection e1)) _ _
 ·rw[List.map_append,List.mem_append];by_cases hdd:d'=d
  ·subst hdd;rw[Maps.has_put_same h3 QT];simp[hx]
  ·rw[Maps.has_put_other (λe1=>hdd (by injection e1)),h5 d'];simp[hx,hdd,λe:d=d'=>hdd e.symm]
 ·show aD w0 w2 (if d'=d then v' else f d') _;rw[List.filter_append];by_cases hdd:d'=d
  ·subst hdd;rw[if_pos rfl,show [x].filter (λx=>g x==d')=[x] by simp[hx]];exact hf.kept g2 (hnot hf) (λk e1=>hmb k _ e1)
  ·rw[if_neg hdd,show [x].filter (λx=>g x==d')=[] by simp[hx];exact λe=>hdd e.symm,List.append_nil];have hk:=(h6 d').kept hg (h7 d' d hdd) hvt;exact hk.kept g2 (hnot hk) (λk e1=>hmb k _ e1)
 ·have other: ∀c,c≠d->(f c).ownBlock=none\/(f c).ownBlock≠v'.ownBlock:=λc hc=>by
   rcases hloc with h|⟨k,h,hk⟩
   ·rw[h];exact h7 c d hc
   ·by_cases hb:(f c).ownBlock=some k
    ·have:=((h6 c).row hb).2.1;omega
    ·rw[h];exact .inr hb
  show (if d'=d then v' else f d').ownBlock=none\/(if d'=d then v' else f d').ownBlock≠(if d''=d then v' else f d'').ownBlock;by_cases hd1:d'=d
  ·subst hd1;rw[if_pos rfl,if_neg (λe1=>hne e1.symm)];rcases other d'' (λe1=>hne e1.symm) with h|h
   ·cases hv':v'.ownBlock with
    |none=>exact .inl rfl
    |some k=>exact .inr (by rw[h];simp)
   ·exact .inr λe1=>h e1.symm
  ·rw[if_neg hd1];by_cases hd2:d''=d
   ·subst hd2;rw[if_pos rfl];exact other d' hd1
   ·rw[if_neg hd2];exact h7 d' d'' hne
theorem qU.get (h:qU P K w0 w b g zs)(ht:P.underlying t=some (.map K e))(hK:P.underlying K=some (.int .i64))(hz:(zeroValue e).run P w=.ok (.slice none 0 0) w){d:Int}(hd:eZ d):
  ∃v,(Instr.lookup t (.map (some b)) (.int .i64 d) false).run P w=.ok v w/\aD w0 w v (zs.filter λx=>g x==d):=by
 obtain ⟨D,f,h1,h2,h3,h4,h5,h6,h7⟩:=h;have hkey:keyOf P K (.int .i64 d)=some (.int .i64 d):=keyOf_int_mk hK (WalkArith.wf_i64 hd);obtain ⟨v,ps,hrun,hv⟩:=h1.lookup (int_keyed hK) ht hz (zd:=.held (.slice none 0 0)) (zp:=[]) rfl hkey;have e0:v=f d:=by
  have e1:=h4 d;simp only[RV,Option.some.injEq,Prod.mk.injEq]at hv;rw[<-hv.1]at e1;injection e1
 subst e0;exact ⟨_,hrun,h6 d⟩
end
theorem Below.grows {w w':World}(h:Below w.heap.size w w')(row:Option Nat):w.grownBy w' row:=⟨h.os,h.tape,h.output,h.size,λk hk _=>h.block k hk⟩
end Go.Proofs.YtopjjlmfilgngaaGreatDoor
