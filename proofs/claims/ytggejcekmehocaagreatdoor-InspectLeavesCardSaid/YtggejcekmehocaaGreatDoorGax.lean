/-
  inspect.copied: a bag in new memory. Plain: the checks that chapter 29's laws make. No program is in sight. Plain law: a table of the world is a table: its counts are positive and small, its rows fit.
-/
import Derived.Deep.DeepCutAuto
import Derived.Test.YtggejcekmehocaaGreatDoorGaq
import Derived.Test.YtggejcekmehocaaGreatDoorGam
import Derived.Test.YtggejcekmehocaaGreatDoorGaw
import Derived.Test.YtggejcekmehocaaGreatDoorGan
import Derived.Test.YtggejcekmehocaaGreatDoorGau
import Derived.Test.YtggejcekmehocaaGreatDoorGao
namespace Go.Proofs.YtggejcekmehocaaGreatDoor
set_option maxHeartbeats 4000000
set_option maxRecDepth 100000
open Go.RowKit
set_option linter.unusedSimpArgs false
set_option linter.unusedVariables false
def OL2 (e:TypeId)(B:Nat)(T:List TypeId)(w:World)(v:Value)(xs:List Ent)(k:Nat):Prop:=
 (∃cs ds,w.ownsRow B e 2 v xs.length (cs++ds)/\Cells w (BS B (λ_=>False) T w) cs (xs.take k)/\Cells w (BS B (λ_=>True) T w) ds (xs.drop k))/\B<=w.heap.size
theorem bs_any {B:Nat}{T:List TypeId}{w:World}{k:Nat}(h:BS B (λ_=>False) T w k):BS B (λ_=>True) T w k:=by
 rcases h with ⟨h,_⟩|h
 ·cases h
 ·exact .inr h
theorem OL2.start {e:TypeId}{B:Nat}{T:List TypeId}{w:World}{v:Value}{xs:List Ent}(h:OL e B (λ_=>True) T w v xs):OL2 e B T w v xs 0:=by
 obtain ⟨⟨cs,h1,h2⟩,hb⟩:=h
 exact ⟨⟨[],cs,h1,rfl,h2⟩,hb⟩
theorem OL2.any {e:TypeId}{B:Nat}{T:List TypeId}{w:World}{v:Value}{xs:List Ent}{k:Nat}(h:OL2 e B T w v xs k):OL e B (λ_=>True) T w v xs:=by
 obtain ⟨⟨cs,ds,h1,h2,h3⟩,hb⟩:=h
 have h4:=Cells.app h3 (h2.mono λ_ hk=>bs_any hk)
 rw[List.take_append_drop]at h4
 exact ⟨⟨_,h1,h4⟩,hb⟩
theorem OL2.fin {e:TypeId}{B:Nat}{T:List TypeId}{w:World}{v:Value}{xs:List Ent}{k:Nat}(h:OL2 e B T w v xs k)(hk:xs.length<=k):OL e B (λ_=>False) T w v xs:=by
 obtain ⟨⟨cs,ds,h1,h2,h3⟩,hb⟩:=h
 rw[List.drop_eq_nil_of_le hk]at h3
 obtain rfl:ds=[]:=h3
 rw[List.take_of_length_le hk]at h2
 rw[List.append_nil]at h1
 exact ⟨⟨_,h1,h2⟩,hb⟩
theorem OL2.below {e:TypeId}{B:Nat}{T:List TypeId}{w w1:World}{v:Value}{xs:List Ent}{k:Nat}(h:OL2 e B T w v xs k)(hb:Below w.heap.size w w1):OL2 e B T w1 v xs k:=by
 obtain ⟨⟨cs,ds,h1,h2,h3⟩,hB⟩:=h
 have k1: ∀j,BS B (λ_=>False) T w j->w1.heap[j]?=w.heap[j]?:=λj hj=>hb.block j (hj.lt hB)
 have k2: ∀j,BS B (λ_=>True) T w j->w1.heap[j]?=w.heap[j]?:=λj hj=>hb.block j (hj.lt hB)
 exact ⟨⟨cs,ds,own_keepO h1 λg hg=>hb.block g (own_tyO h1 hg).2.lt,(h2.keep k1).mono λj hj=>hj.kept (k1 j hj),(h3.keep k2).mono λj hj=>hj.kept (k2 j hj)⟩,Nat.le_trans hB hb.size⟩
theorem OL.addr {α:Type}[Rep α]{e:TypeId}{B:Nat}{O:Nat->Prop}{T:List TypeId}{w:World}{A:Option Addr}{n c:Nat}{xs:List α}(h:OL e B O T w (.slice A n c) xs)(hn:0<xs.length): ∃g,A=some ⟨g,0,none⟩/\B<=g/\TyAt w e g/\ ∀o,w.frozen? ⟨g,o,none⟩=false:=by
 obtain ⟨⟨cs,h1,h2⟩,hb⟩:=h
 rcases h1.2 with ⟨_,h0⟩|⟨g,cap,cur,hv,hg,hh,_⟩
 ·omega
 ·injection hv with hv
  exact ⟨g,hv,hg,⟨cur,hh⟩,λo=>frozen_of_row w g o _ _ hh⟩
theorem OL2.step {e:TypeId}{B:Nat}{T:List TypeId}{w:World}{g n c:Nat}{xs:List Ent}{k:Nat}(h:OL2 e B T w (.slice (some ⟨g,0,none⟩) n c) xs k)(hT:e∉T){x:Ent}(hk:xs.drop k=x :: xs.drop (k+1)){A1:Option Addr}{m c1:Nat}(hs:Sl w (BS B (λ_=>False) T w) A1 m c1 x.row):
  OL2 e B T (w.setCell ⟨g,k*2,none⟩ (.slice A1 m c1)) (.slice (some ⟨g,0,none⟩) n c) xs (k+1):=by
 obtain ⟨⟨cs,ds,h1,h2,h3⟩,hb⟩:=h
 rw[hk]at h3
 obtain ⟨a,b,rfl,⟨A0,n0,c0,rfl,hr1,hr2⟩,hc⟩:=h3
 have hlen:cs.length=k*2:=by
  have h4:=h2.len
  have h5:k<xs.length:=by
   rcases Nat.lt_or_ge k xs.length with q|q
   ·exact q
   ·rw[List.drop_eq_nil_of_le q]at hk;cases hk
  rw[h4,List.length_take,Nat.min_eq_left (by omega)]
  rfl
 rcases h1.2 with ⟨hv,_⟩|⟨g',cap,cur,hv,hg,hh,h4,h5,h6,h7⟩
 ·cases hv
 injection hv with hv q1 q2
 injection hv with hv
 injection hv with hv
 subst hv q2
 have hS: ∀(O:Nat->Prop) j,BS B O T w j->(w.setCell ⟨g,k*2,none⟩ (.slice A1 m c1)).heap[j]?=w.heap[j]?:=λO j hj=>Below.heap_setCell _ _ _ j (λq=>by
  have q:j=g:=q
  subst q
  rcases hj with ⟨_,hj⟩|⟨_,t',ht',hj⟩
  ·omega
  ·exact TyAt.ne ⟨cur,hh⟩ hj (λe'=>hT (e'▸ht')) rfl)
 refine ⟨⟨cs++[.slice A1 m c1,.int .i64 x.count],b,⟨?_,.inr ⟨g,c,cur.setIfInBounds (k*2) (.slice A1 m c1),by rw[q1],hg,by simp[World.setCell,Array.getElem?_modify,hh],h4,h5,by simpa using h6,?_⟩⟩,?_,?_⟩,by simpa[World.setCell] using hb⟩
 ·have h8:=h1.1
  simp at h8⊢
  omega
 ·rw[Array.toList_setIfInBounds,List.take_set,h7,<-hlen]
  simp
 ·rw[take_snoc hk]
  refine Cells.app (Cells.one (show Rep.rd _ _ [.slice A1 m c1,.int .i64 x.count] x from ⟨_,_,_,rfl,(Sl.keep (λj hj=>hS _ j hj) hs).mono λj hj=>hj.kept (hS _ j hj),hr2⟩)) ((h2.keep (hS _)).mono λj hj=>hj.kept (hS _ j hj))
 ·exact (hc.keep (hS _)).mono λj hj=>hj.kept (hS _ j hj)
theorem copiedI_any (w:World)(A:Option Addr)(n c:Nat)(xs:List Ent)(hx:In w A n c xs)(hn:n<=4096)(hr: ∀x∈xs,x.row.length<=4096):
  Calls Tryz.prog 37 #[.slice A n c] w λe w'=>(∃v,e=.returned v/\OL 61 w.heap.size (λ_=>False) [74] w' v xs)/\Below w.heap.size w w':=by
 have HL:=hide hx.len
 have HR:=hide hr
 clear hr
 go_enter Tryz.func37,Tryz.ntmps37
 go_wp2_with fail
 refine (clone_ents _ A n c xs hx (by omega)).mono ?_
 rintro e w1 ⟨⟨A1,c1,rfl,ho⟩,hb1⟩
 have HO0:=hide (OL2.start (ho.types (T':=[74]) (by simp)))
 have HB0:=hide hb1
 clear ho hb1
 go_wp2
 go_loopg [4,9] n (λleft j i wr=> ∃k:Nat,k+left=n/\i=.int .i64 k/\OL2 61 w.heap.size [74] wr (.slice A1 n c1) xs k/\Below w.heap.size w wr)
 case atStart=>exact ⟨0,by omega,rfl,HO0.out,HB0.out⟩
 case round=>
  obtain ⟨k,hk,rfl,hol,hb⟩:=hrel
  have HOL:=hide hol
  have HB:=hide hb
  by_cases hlt:k<n
  ·obtain ⟨g,rfl,hg,hty,hfz⟩:=hol.any.addr (by rw[HL.out];omega)
   obtain ⟨b,off,x,heq,hBb,HX,Ax,An,Ac,e0,e1,e2,e3⟩:=(ol_in hol.any HL.out).ent hlt
   injection heq with heq
   injection heq with q1 q2
   subst q1 q2
   rw[Nat.zero_add]at e0 e1
   have hxm:=mem_of_drop HX.out
   have hAn:An<=4096:=by have:=HR.out x hxm;have:=e2.len;omega
   have k0:(0:Int)<=(k:Int):=by omega
   have k1:(k:Int)<(n:Int):=by omega
   have HE2:=hide e2
   have hf0:=hfz (k*2)
   have hglt:=hty.lt
   clear hol hb e1 e2 hfz hty
   go_wp2_with fail
   refine (clone_any _ Ax An Ac x.row HE2.out (by omega)).mono ?_
   rintro e w2 ⟨⟨A2,c2,rfl,hs2⟩,hb2⟩
   have e0':=bat hb2 hglt e0
   have hf2:=((bcell hb2).2 g (k*2) hglt).trans hf0
   have hlt2:=Nat.lt_of_lt_of_le hglt hb2.size
   have HO2:=hide ((HOL.out.below hb2).step (by decide) HX.out (hs2.mono λj hj=>.inr ⟨Nat.le_trans HB.out.size hj.1,_,by simp,hj.2⟩))
   have HB2:=hide ((HB.out.trans (hb2.mono HB.out.size)).setCell (p:=⟨g,k*2,none⟩) hg (.slice A2 An c2))
   clear e0 hf0 hs2 hb2 hglt
   go_wp2
   go_roundg (gk-1)
   case measure=>omega
   case rel=>exact ⟨k+1,by omega,by go_num,HO2.out,HB2.out⟩
  ·have HIN:=hide (HOL.out.fin (by rw[HL.out];omega))
   go_wp2
   go_ret
   exact ⟨⟨_,rfl,HIN.out⟩,HB.out⟩
def nV:ByteArray:=⟨#[118]⟩
def nId:ByteArray:=⟨#[105,100]⟩
def nName:ByteArray:=⟨#[110,97,109,101]⟩
def c29:List Col:=[cId false,cName true,⟨nV,2,true⟩]
theorem c29_good: ∀x∈c29,x.good:=by
 intro x hx
 simp only[c29,List.mem_cons,List.not_mem_nil,or_false]at hx
 rcases hx with rfl|rfl|rfl <;> refine ⟨col_ok ?_ ?_ ?_,?_,?_⟩ <;> decide
def l29:List Node:=[⟨1,⟨0,0,⟨#[]⟩⟩,nV,0⟩,⟨1,⟨0,0,⟨#[]⟩⟩,nId,0⟩,⟨12,⟨0,0,⟨#[]⟩⟩,⟨#[]⟩,0⟩]
def chk29 (k:Int)(cs:List ByteArray)(on:ByteArray)(os:List ByteArray)(hi:Int)(cond:List Node)(ln ld mn md:Int):Chk:=⟨⟨#[99]⟩,⟨#[]⟩,k,cs,on,os,0,hi,cond,ln,ld,mn,md,1⟩
def kc29:List (List ByteArray):=[[nName],[nId,nV],[nV]]
def made29:List Chk:=(kc29.map λcs=>chk29 0 cs ⟨#[]⟩ [] 0 [] 0 0 0 0)++(kc29.map λcs=>chk29 1 cs ⟨#[]⟩ [] 0 [] 0 0 0 0)++
 [chk29 2 [nV] ⟨#[]⟩ [] 3 [] 0 0 0 0,chk29 3 [nName] ⟨#[111]⟩ [nName] 0 [] 0 0 0 0,chk29 3 [nV] ⟨#[111]⟩ [nId] 0 [] 0 0 0 0,chk29 3 [nName,nId] ⟨#[111]⟩ [nName,nV] 0 [] 0 0 0 0,chk29 6 [nV] ⟨#[111]⟩ [nId] 0 [] 0 0 0 0,chk29 4 [] ⟨#[]⟩ [] 0 l29 1 3 2 3,chk29 5 [] ⟨#[]⟩ [] 0 l29 1 3 2 3]
theorem cnt_bd {cols:List Col}{xs:List Ent}(h: ∀x∈xs,TEnt cols x)(r:List Val):0<=cnt xs r/\cnt xs r<=2*(xs.length:Int):=by
 induction xs with
 |nil=>simp[cnt]
 |cons x l ih=>
  have h1:=(h x (by simp)).2.2
  have h2:=ih λy hy=>h y (by simp[hy])
  rw[cnt,List.length_cons]
  split <;> omega
theorem TabOf.tab {cols:List Col}(hl:cols.length<=12){zs:List Ent}(h:TabOf cols zs):(∀x∈zs,0<x.count/\x.count<=2000)/\tabErr cols zs=0:=by
 obtain ⟨hb,hr,_⟩:=h.bag hl
 obtain ⟨xs,q,h1,h2,h3⟩:=h
 have hn:=normed_S h3
 rw[normS_ok λx hx=>tent_ent hl (h1 x hx)]at hn
 have hc: ∀x∈zs,0<x.count/\x.count<=2000:=by
  intro x hx
  have hz:x.count≠0:=((bagErr_iff.1 hb).2.1 x hx).2
  rcases bagS_err xs with e|⟨_,e⟩
  ·have c:=bagS_cnt e x.row
   rw[hn]at c
   have d:=(bag_asc hb).mem hx
   have b:=cnt_bd h1 x.row
   have c':cnt zs x.row=cnt xs x.row:=c
   omega
  ·rw[hn]at e
   have e':zs=[]:=e
   subst e'
   cases hx
 refine ⟨hc,?_⟩
 have ht:isTable zs=true:=by
  rw[isTable,hb]
  simp only[BEq.rfl,Bool.true_and,List.all_eq_true,decide_eq_true_eq]
  exact λx hx=>by have:=hc x hx;omega
 rw[tabErr,if_neg (by simp[hb]),ht,if_neg (by simp)]
 exact fe_zero.2 λj x hx=>hr x (List.mem_iff_getElem?.2 ⟨j,hx⟩)
end Go.Proofs.YtggejcekmehocaaGreatDoor
