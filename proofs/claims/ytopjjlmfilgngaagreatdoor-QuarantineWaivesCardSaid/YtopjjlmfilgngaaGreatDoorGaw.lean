/-
  partition.Split: the partitions of a bag, by ascending day. partition.Replace, warehouseref22.Replace. Plain law: a table of the world fits its columns and its scheme. warehouseworld.Columns at a number; Table as lists; facts that a write to the numbers does not touch.
-/
import Derived.Lib.SlKeysI
import Derived.Shelf.SlIterI.Nil
import Derived.Shelf.SortM.Plain
import Derived.Shelf.SortM.SortNone
import Derived.Test.YtopjjlmfilgngaaGreatDoorProg
import Derived.Test.YtopjjlmfilgngaaGreatDoorGao
import Derived.Test.YtopjjlmfilgngaaGreatDoorGrp
import Derived.Test.YtopjjlmfilgngaaGreatDoorGan
import Derived.Test.YtopjjlmfilgngaaGreatDoorGae
import Derived.Test.YtopjjlmfilgngaaGreatDoorGak
import Derived.Test.YtopjjlmfilgngaaGreatDoorGaa
import Derived.Test.YtopjjlmfilgngaaGreatDoorStk
import Derived.Test.YtopjjlmfilgngaaGreatDoorGad
import Derived.Test.YtopjjlmfilgngaaGreatDoorGap
namespace Go.Proofs.YtopjjlmfilgngaaGreatDoor
open Go.RowKit
set_option linter.unusedSimpArgs false
set_option linter.unusedVariables false
def SP (w:World)(k:Nat):Prop:=dm w 50 k\/dm w 36 k
theorem SP.lt {w:World}{k:Nat}(h:SP w k):k<w.heap.size:=h.elim dm.lt dm.lt
theorem SP.below {w w':World}{k:Nat}(h:SP w k)(hb:Below w.heap.size w w'):SP w' k:=h.imp (λh=>h.below hb) (λh=>h.below hb)
theorem aD.sp {w0 w:World}{v:Value}{zs:List Ent}(h:aD w0 w v zs): ∃A c,v=.slice A zs.length c/\Sl w (SP w) A zs.length c zs:=by
 obtain ⟨cs,h1,h2⟩:=h;obtain ⟨A,c,e,hs,_⟩:=gP (T:=SP w) h1 h2 (λk hk=>.inr hk.2) rfl (λg _ hg=>.inl hg);exact ⟨A,c,e,hs⟩
theorem zK {xs:List Ent}{m:Int}{zs:List Ent}(h:yB xs m zs):Jy xs=(m,zs):=by
 rw[Jy];rcases h with ⟨h1,rfl,rfl⟩|⟨h1,h2⟩
 ·rw[if_pos h1]
 ·rw[if_neg (by simpa using h1),pU];rcases h2 with ⟨rfl,h,rfl⟩|⟨rfl,h,rfl⟩
  ·rw[if_pos h]
  ·rw[if_neg (by rw[h];simp)]
theorem OQ {cols:List Col}{x:Ent}(h:GI cols x):aG cols x.row=0:=
 F6 h.1 λi h1 h2=>by
  have:=h.2.1 i h2
  rwa [List.getD_eq_getElem?_getD,List.getD_eq_getElem?_getD,List.getElem?_eq_getElem h1,List.getElem?_eq_getElem h2]at this
theorem sZ {c:Col}{v:Val}(h:bZ c v=0):valid v=true:=by
 rw[bZ]at h
 split at h
 ·omega
 ·rename_i q;simpa using q
theorem Ad {cols:List Col}(hl:cols.length<=12){x:Ent}(h:GI cols x):aV x=0:=by
 refine qh.2 ⟨by have:=h.2.2;omega,by rw[h.1];exact hl,λv hv=>?_⟩;obtain ⟨i,hi,rfl⟩:=List.mem_iff_getElem.1 hv;have:=h.2.1 i (by rw[<-h.1];exact hi);rw[List.getD_eq_getElem?_getD,List.getD_eq_getElem?_getD,List.getElem?_eq_getElem hi]at this;exact sZ this.2
theorem NU {xs:List Ent}:(pU xs).2.length<=xs.length:=by
 rw[pU]
 split
 ·simp
 ·exact DK (sD (sH _)) (mf _) λr hr=>by
   rw[oV,pu]at hr;by_cases g: ∃x∈xs,x.row=r
   ·exact g
   ·exact absurd (iy λx hx e=>g ⟨x,hx,dn.1 e⟩) hr
theorem sV.bag {cols:List Col}(hl:cols.length<=12){zs:List Ent}(h:sV cols zs):aL zs=0/\(∀x∈zs,aG cols x.row=0)/\zs.length<=1000:=by
 obtain ⟨xs,q,h1,h2,h3⟩:=h;have hn:=zK h3;rw[zJ λx hx=>Ad hl (h1 x hx)]at hn;have a:=Dh (xs:=xs) λx hx=>Ad hl (h1 x hx);have b:=vW (P:=λr=>aG cols r=0) (xs:=xs) λx hx=>OQ (h1 x hx);have c:=NU (xs:=xs);rw[hn]at a b c;exact ⟨a,b,Nat.le_trans c h2⟩
theorem Num.other {w0 w w':World}{g h:Nat}{A:Option Addr}{n c:Nat}{l:List Int}{i:Nat}(hN:Num w h A n c l i)(hl:In w0 A n c l)(hw:Below w0.heap.size w0 w)(h0:w0.heap.size<=g)(hlt:w0.heap.size<=h)(hne:h≠g)(hg:w.grownBy w' (some g)):Num w' h A n c l i:=by
 have hs: ∀k,k<w.heap.size->k≠g->w'.heap[k]?=w.heap[k]?:=λk hk hn=>hg.block k hk λe=>by injection e with e;exact hn e
 have hh:=hs h hN.lt hne;obtain ⟨cur,hc,hm⟩:=hN.blk;have hb:Below w0.heap.size w0 w':=gJ hw hg hw.size h0;exact ⟨(World.cell?_of_block (a:=⟨h,0,none⟩) hh).trans hN.c0,(World.cell?_of_block (a:=⟨h,1,none⟩) hh).trans hN.c1,⟨cur,hh.trans hc,hm⟩,(hl.keep (Same.below hb)).mono λk (hk:k<w0.heap.size)=>by omega,hN.le,hN.nn⟩
end Go.Proofs.YtopjjlmfilgngaaGreatDoor
