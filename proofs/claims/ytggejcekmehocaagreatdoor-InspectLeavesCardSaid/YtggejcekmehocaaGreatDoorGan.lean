/-
  warehouseworld.Row, Columns, Table: tables that fit. bag.Add, warehouseref6.Add. bag.Subtract, warehouseref6.Subtract, Negate and their helpers. Plain law of bag.sum: a sorted list, its runs of equal rows summed. No program is in sight. warehouseworld.Columns, Table; warehouselaw22.table: columns, a zone and a table that fits.
-/
import Derived.Test.YtggejcekmehocaaGreatDoorValW
import Derived.Test.YtggejcekmehocaaGreatDoorGad
import Derived.Test.YtggejcekmehocaaGreatDoorGal
import Derived.Test.YtggejcekmehocaaGreatDoorBagM
namespace Go.Proofs.YtggejcekmehocaaGreatDoor
set_option maxHeartbeats 4000000
set_option maxRecDepth 100000
open Go.RowKit
set_option linter.unusedSimpArgs false
set_option linter.unusedVariables false
theorem grown_low {w W W':World}{row:Option Nat}(h:w.grownBy W row)(hb:Below w.heap.size W W'):w.grownBy W' row:=
 ⟨hb.os.trans h.os,hb.tape.trans h.tape,hb.output.trans h.output,Nat.le_trans h.size hb.size,λk hk hr=>(hb.block k hk).trans (h.block k hk hr)⟩
theorem Num.low {W W':World}{B gb:Nat}{A:Option Addr}{n c:Nat}{l:List Int}{i:Nat}(h:Num W gb A n c l i)(hb:Below B W W')(hgb:gb<B):Num W' gb A n c l i:=by
 obtain ⟨cur,hc,hm⟩:=h.blk
 exact ⟨(hb.cell (p:=⟨gb,0,none⟩) hgb).trans h.c0,(hb.cell (p:=⟨gb,1,none⟩) hgb).trans h.c1,⟨cur,(hb.block gb hgb).trans hc,hm⟩,h.lst.keep λk hk=>hb.block k (Nat.lt_trans hk hgb),h.le,h.nn⟩
structure RowAt (w W:World) (gb:Nat) (A:Option Addr) (n c:Nat) (l:List Int) (cols:List Col) (B:Option Addr) (d k:Nat) (vs:List Val):Prop where
 len:vs.length=k
 fits: ∀i,i<k->Fits (cols.getD i default) (vs.getD i default)
 stk:Stk w.heap.size W 74 B d vs
 num: ∃j,Num W gb A n c l j
 grown:w.grownBy W (some gb)
theorem stk_kept {α:Type}[Flat α]{B:Nat}{W W':World}{e:TypeId}{A:Option Addr}{c gb:Nat}{xs:List α}(h:Stk B W e A c xs)(hg:W.grownBy W' (some gb))(hgb:gb<B):Stk B W' e A c xs:=
 ⟨ownsRow_keep h.own λg hq=>hg.block g (h.blk g hq).1 (λe=>by injection e with e;have:=(h.blk g hq).2;omega),h.ok⟩
theorem rowW_any (w:World)(gb:Nat)(A:Option Addr)(n c:Nat)(l:List Int)(i:Nat)(hN:Num w gb A n c l i)(A1:Option Addr)(n1 c1:Nat)(cols:List Col)(hc:Off w gb A1 n1 c1 cols)(hgood: ∀x∈cols,x.good)(hn1:n1<=4096):
  Calls Tryz.prog 46 #[.slice A1 n1 c1,.pointer (some ⟨gb,0,none⟩)] w
   λe w'=> ∃B d vs,e=.returned (.slice B n1 d)/\RowAt w w' gb A n c l cols B d n1 vs:=by
 obtain ⟨i0,hi,hz0,hz1,hz2⟩:=info_parts val_info
 have h63:=hc.inn.le
 have hlow:=hN.lt
 have HG:=hide hgood
 have HN:=hide hN
 clear hgood hN
 go_enter Tryz.func46,Tryz.ntmps46
 go_wp2
 go_loopw [5,6] (λo q wr=> ∃(k:Nat) (B:Option Addr) (d:Nat) (vs:List Val),k<=n1/\q=.int .i64 k/\o=.slice B k d/\RowAt w wr gb A n c l cols B d k vs) (λ_ q _=>n1-(intOf q).toNat)
 case atStart=>exact ⟨0,none,0,[],Nat.zero_le _,rfl,rfl,rfl,λi hi=>by omega,Stk.nil_ _ _ _,⟨_,HN.out⟩,Below.grows (Below.refl _ _) _⟩
 case round=>
  obtain ⟨k,B,d,vs,hk,rfl,rfl,hR⟩:=hrel
  have HR:=hide hR
  clear hR
  by_cases hlt:k<n1
  ·obtain ⟨b,off,x,rfl,hB,HX,e0,e1,e2,e3⟩:=(hc.grown HR.out.grown).inn.col hlt
   have hxg:=HG.out x (mem_of_drop HX.out)
   have HF:Hid (cols.getD k default=x):=hide (by rw[List.getD,(drop_get HX.out).1];rfl)
   obtain ⟨j,hnum⟩:=HR.out.num
   have k0:(0:Int)<=(k:Int):=by omega
   have k1:(k:Int)<(n1:Int):=by omega
   obtain ⟨nm,kd,nl⟩:=x
   simp only at e0 e1 e2
   go_wp2_with fail
   refine (valueW_any wr gb A n c l j hnum nm kd nl hxg).mono ?_
   rintro e w2 ⟨⟨v,j2,rfl,hfit,hn2⟩,hg2⟩
   have HFIT:=hide hfit
   have HN2:=hide hn2
   have HG2:=hide hg2
   have hok:=hfit.1
   have hsz:w.heap.size<=w2.heap.size:=Nat.le_trans HR.out.grown.size hg2.size
   have HS2:=hide (stk_kept HR.out.stk hg2 hlow)
   have HKL:=hide (Nat.le_of_eq HR.out.len.symm)
   clear hfit hn2 hg2 hnum e0 e1 e2
   go_wp2_with (at_builtin;refine wpList_push (α:=Val) _ rfl (.tmp 13) (.tmp 20) 59 rfl w.heap.size 74 i0 _ 32 Tryz.underlying59 hi hz0 hz1 hz2 rfl (by decide) B d k vs (HS2.out.keep below_alloc) HKL.out rfl v hok w2.heap.size rfl (oneAt_new _ _ _ _ rfl) (by omega) (by simp;omega) ?_;intro A' c' w5 hst5 hb5)
   have HRN:Hid (RowAt w w5 gb A n c l cols A' c' (k+1) (vs++[v])):=hide (by
    have hl:=HR.out.len
    rw[List.take_of_length_le (by omega)]at hst5
    refine ⟨by rw[List.length_append,hl];rfl,λi hi=>?_,hst5,⟨j2,(HN2.out.below below_alloc).low hb5 hlow⟩,grown_low ((HR.out.grown.trans HG2.out).trans (Below.grows below_alloc _)) hb5⟩
    by_cases hik:i=k
    ·subst hik
     rw[HF.out,List.getD,List.getElem?_append_right (by omega),hl,Nat.sub_self]
     exact HFIT.out
    ·rw[show (vs++[v]).getD i default=vs.getD i default by rw[List.getD,List.getD,List.getElem?_append_left (by omega)]]
     exact HR.out.fits i (by omega))
   clear hst5 hb5
   go_wp2
   go_roundw
   case rel=>exact ⟨k+1,A',c',vs++[v],by omega,by go_num,rfl,HRN.out⟩
   case measure=>simp[intOf];omega
  ·have hkn:k=n1:=by omega
   subst hkn
   go_wp2
   go_ret
   exact ⟨B,d,vs,rfl,HR.out⟩
theorem bothE_zero {xs ys:List Ent}:bothE xs ys=0↔bagErr xs=0/\bagErr ys=0:=by
 rw[bothE]
 split
 ·rename_i h;exact ⟨λq=>absurd q h,λq=>absurd q.1 h⟩
 ·rename_i h;exact ⟨λq=>⟨by simpa using h,q⟩,λq=>q.2⟩
theorem addS_err {xs ys:List Ent}(h:bothE xs ys≠0):addS xs ys=(bothE xs ys,[]):=by
 rw[bothE]at h⊢
 rw[addS]
 split
 ·rfl
 ·rename_i q
  rw[if_neg q]at h
  rw[if_pos h]
theorem addS_ok {xs ys:List Ent}(h:bothE xs ys=0):addS xs ys=mergS (mergeL xs ys):=by
 obtain ⟨h1,h2⟩:=bothE_zero.1 h
 rw[addS,if_neg (by simpa using h1),if_neg (by simpa using h2),mergS_bag (mergeL_asc (bag_asc h1) (bag_asc h2)) (mergeL_cnt xs ys)]
theorem bag_bnd {b:List Ent}(h:bagErr b=0):Bnd 65536 b:=λx hx=>by have:=ent_cnt (bag_ents h x hx);omega
theorem bag_row {b:List Ent}(h:bagErr b=0): ∀x∈b,x.row.length<=12:=λx hx=>(ent_cnt (bag_ents h x hx)).2.2
theorem bag_le {b:List Ent}(h:bagErr b=0):b.length<=4096:=(bagErr_iff.1 h).1
theorem add_bag (w:World)(A:Option Addr)(n c:Nat)(xs:List Ent)(hx:In w A n c xs)(A2:Option Addr)(n2 c2:Nat)(ys:List Ent)(hy:In w A2 n2 c2 ys):
  Calls Tryz.prog 72 #[.slice A n c,.slice A2 n2 c2] w λe w'=>(∃v,e=.returned (.tuple #[v,.int .i64 (addS xs ys).1])/\OE w.heap.size w' v (addS xs ys).2)/\Below w.heap.size w w':=by
 have H1:=hide (addS_err (xs:=xs) (ys:=ys))
 have H2:=hide (addS_ok (xs:=xs) (ys:=ys))
 have H3:=hide (bothE_zero (xs:=xs) (ys:=ys)).1
 obtain ⟨R,hR⟩: ∃R,addS xs ys=R:=⟨_,rfl⟩
 rw[hR]at H1 H2⊢
 obtain ⟨E,hE⟩: ∃E,bothE xs ys=E:=⟨_,rfl⟩
 have HE:=hide hE
 rw[hE]at H1 H2 H3
 clear hE hR
 have hnx:=hx.len
 have hny:=hy.len
 go_enter Tryz.func72,Tryz.ntmps72
 have HX:=hide hx
 clear hx
 have HY:=hide hy
 clear hy
 go_wp2_with fail
 refine (both_ents _ _ _ _ xs HX.out _ _ _ ys HY.out).mono ?_
 rintro e w1 ⟨rfl,hb1⟩
 have HX:=hide (HX.out.below hb1)
 have HY:=hide (HY.out.below hb1)
 have SG2:=hide hb1
 clear hb1
 rw[HE.out]
 by_cases h0:E=0
 ·have HRQ:=hide (H2.out h0)
  obtain ⟨h1,h2⟩:=H3.out h0
  have h3:=bag_le h1
  have h4:=bag_le h2
  have HM:Hid (mergeL xs (sg 1 ys)=mergeL xs ys):=hide (by rw[sg_one])
  have HG1:=hide h1
  have HG2:=hide h2
  subst h0
  have hsz:=SG2.out.size
  clear h1 h2
  go_wp2_with fail
  refine (merge_bag _ 1 (.inl rfl) _ _ _ _ _ _ xs ys HX.out HY.out (by omega) (bag_bnd HG1.out) (bag_bnd HG2.out) (bag_row HG1.out) (bag_row HG2.out)).mono ?_
  rintro e w3 ⟨⟨v,rfl,ho⟩,hb3⟩
  have SG4:=hide (below_trans SG2.out hb3)
  clear hb3
  rw[HM.out]at ho⊢
  have HO:=hide (ho.rebase hsz)
  clear ho
  generalize mergS (mergeL xs ys)=R2 at*
  obtain rfl:=HRQ.out
  go_wp2
  go_ret2
  exact ⟨⟨_,rfl,HO.out⟩,SG4.out⟩
 ·obtain rfl:=H1.out h0
  have q:(E != 0)=true:=by simpa using h0
  go_wp2
  all_goals (try (exfalso;go_light;simp_all;done))
  go_ret2
  exact ⟨⟨_,rfl,OL.nil SG2.out.size⟩,SG2.out⟩
theorem two_ents (w:World)(A:Option Addr)(n c:Nat)(xs:List Ent)(hx:In w A n c xs)(A2:Option Addr)(n2 c2:Nat)(ys:List Ent)(hy:In w A2 n2 c2 ys):
  Calls Tryz.prog 48 #[.slice A n c,.slice A2 n2 c2] w λe w'=>e=.returned (.int .i64 (bothE xs ys))/\Below w.heap.size w w':=by
 have HF:=hide (show bothE xs ys=if bagErr xs≠0 then bagErr xs else bagErr ys from rfl)
 generalize bothE xs ys=r at*
 obtain ⟨E,hE⟩: ∃E,bagErr xs=E:=⟨_,rfl⟩
 have HE:=hide hE
 rw[hE]at HF
 clear hE
 go_enter Tryz.func48,Tryz.ntmps48
 have HX:=hide hx
 clear hx
 have HY:=hide hy
 clear hy
 go_wp2_with fail
 refine (bag_ref _ _ _ _ xs HX.out).mono ?_
 rintro e w5 ⟨rfl,hb5⟩
 have HY:=hide (HY.out.below hb5)
 have SG6:=hide hb5
 clear hb5
 rw[HE.out]
 by_cases h0:E=0
 ·have HF2:=HF.out
  rw[if_neg (by simpa using h0)]at HF2
  subst h0
  go_wp2_with fail
  refine (bag_ref _ _ _ _ ys HY.out).mono ?_
  rintro e w7 ⟨rfl,hb7⟩
  have SG8:=hide (below_trans SG6.out hb7)
  clear hb7
  go_wp2
  go_ret
  exact ⟨ret_int HF2.symm,SG8.out⟩
 ·have HF2:=HF.out
  rw[if_pos h0]at HF2
  subst HF2
  have q:(r != 0)=true:=by simpa using h0
  go_wp2
  all_goals (try (exfalso;go_light;simp_all;done))
  go_ret
  exact ⟨rfl,SG6.out⟩
theorem result_mergS {M:List Ent}{m:Int}{zs:List Ent}(h:(m=2/\resErr 0 M=true/\zs=[])\/(m=0/\resErr 0 M=false/\zs=keepF M)):mergS M=(m,zs):=by
 rw[mergS]
 rcases h with ⟨rfl,h,rfl⟩|⟨rfl,h,rfl⟩
 ·rw[if_pos h]
 ·rw[if_neg (by rw[h];simp)]
theorem mergeL_lenP {xs ys:List Ent}:(mergeL xs ys).length<=xs.length+ys.length:=mergeL_len _ xs ys (Nat.le_refl _)
theorem OwnEnts.out {w w':World}{S:Nat->Prop}{v:Value}{zs:List Ent}(h:OwnEnts w w' S v zs)(hS: ∀k,S k->k<w'.heap.size): ∃A c,v=.slice A zs.length c/\In w' A zs.length c zs:=h.sl hS
theorem add_ref6 (w:World)(A:Option Addr)(n c:Nat)(xs:List Ent)(hx:In w A n c xs)(A2:Option Addr)(n2 c2:Nat)(ys:List Ent)(hy:In w A2 n2 c2 ys):
  Calls Tryz.prog 22 #[.slice A n c,.slice A2 n2 c2] w λe w'=>(∃v,e=.returned (.tuple #[v,.int .i64 (addS xs ys).1])/\OE w.heap.size w' v (addS xs ys).2)/\Below w.heap.size w w':=by
 have H1:=hide (addS_err (xs:=xs) (ys:=ys))
 have H2:=hide (addS_ok (xs:=xs) (ys:=ys))
 have H3:=hide (bothE_zero (xs:=xs) (ys:=ys)).1
 obtain ⟨R,hR⟩: ∃R,addS xs ys=R:=⟨_,rfl⟩
 rw[hR]at H1 H2⊢
 obtain ⟨E,hE⟩: ∃E,bothE xs ys=E:=⟨_,rfl⟩
 have HE:=hide hE
 rw[hE]at H1 H2 H3
 clear hE hR
 have hnx:=hx.len
 have hny:=hy.len
 go_enter Tryz.func22,Tryz.ntmps22
 have HX:=hide hx
 clear hx
 have HY:=hide hy
 clear hy
 go_wp2_with fail
 refine (two_ents _ _ _ _ xs HX.out _ _ _ ys HY.out).mono ?_
 rintro e w9 ⟨rfl,hb9⟩
 have HX:=hide (HX.out.below hb9)
 have HY:=hide (HY.out.below hb9)
 have SG10:=hide hb9
 clear hb9
 rw[HE.out]
 by_cases h0:E=0
 ·have HRQ:=hide (H2.out h0)
  obtain ⟨h1,h2⟩:=H3.out h0
  have h3:=bag_le h1
  have h4:=bag_le h2
  have HG1:=hide h1
  have HG2:=hide h2
  have HML:=hide (mergeL_lenP (xs:=xs) (ys:=ys))
  have HMR:Hid (∀x∈mergeL xs ys,x.row.length<=4096):=hide λx hx=>by
   have:=mergeF_rows (P:=λr=>r.length<=12) _ xs ys (bag_row h1) (bag_row h2) x hx
   omega
  subst h0
  have hsz:=SG10.out.size
  clear h1 h2
  go_wp2_with fail
  refine (merge_ref _ _ _ _ _ _ _ xs ys HX.out HY.out (by omega) 65536 65536 (by omega) (by omega) (by omega) (by omega) (bag_bnd HG1.out) (bag_bnd HG2.out)).mono ?_
  rintro e w11 ⟨⟨v,rfl,ho⟩,hb11⟩
  have LST12:=hide hb11
  have SG12:=hide (below_trans SG10.out hb11)
  clear hb11
  obtain ⟨A6,c6,hv,hin⟩:=ho.sl (λk hk=>Nat.lt_of_lt_of_le hk LST12.out.size)
  subst hv
  have hml:=HML.out
  have hsz2:=SG12.out.size
  clear ho
  generalize mergeL xs ys=M at*
  go_wp2_with fail
  refine (result_ref _ _ _ _ M hin (by omega) HMR.out).mono ?_
  rintro e w13 ⟨⟨v,m,zs,rfl,hf,hal⟩,hb13⟩
  have LST14:=hide hb13
  have SG14:=hide (below_trans SG12.out hb13)
  clear hb13
  have HR:=hide (result_mergS hal)
  have HO:=hide ((hf.ol LST14.out.size).rebase hsz2)
  clear hf hal
  obtain rfl:=HRQ.out.trans HR.out
  go_wp2
  go_ret2
  exact ⟨⟨_,rfl,HO.out⟩,SG14.out⟩
 ·obtain rfl:=H1.out h0
  have q:(E != 0)=true:=by simpa using h0
  go_wp2
  all_goals (try (exfalso;go_light;simp_all;done))
  go_ret2
  exact ⟨⟨_,rfl,OL.nil SG10.out.size⟩,SG10.out⟩
def subS (xs ys:List Ent):Int×List Ent:=if bothE xs ys≠0 then (bothE xs ys,[]) else mergS (mergeL xs (sg (-1) ys))
theorem sg_row {P:List Val->Prop}{l:List Ent}(h: ∀x∈l,P x.row): ∀x∈sg (-1) l,P x.row:=λx hx=>by
 obtain ⟨y,hy,rfl⟩:=List.mem_map.1 hx
 exact h y hy
theorem sg_len (s:Int)(l:List Ent):(sg s l).length=l.length:=List.length_map ..
theorem sub_bag (w:World)(A:Option Addr)(n c:Nat)(xs:List Ent)(hx:In w A n c xs)(A2:Option Addr)(n2 c2:Nat)(ys:List Ent)(hy:In w A2 n2 c2 ys):
  Calls Tryz.prog 42 #[.slice A n c,.slice A2 n2 c2] w λe w'=>(∃v,e=.returned (.tuple #[v,.int .i64 (subS xs ys).1])/\OE w.heap.size w' v (subS xs ys).2)/\Below w.heap.size w w':=by
 have H1:=hide (show bothE xs ys≠0->subS xs ys=(bothE xs ys,[]) from λh=>if_pos h)
 have H2:=hide (show bothE xs ys=0->subS xs ys=mergS (mergeL xs (sg (-1) ys)) from λh=>if_neg (by simpa using h))
 have H3:=hide (bothE_zero (xs:=xs) (ys:=ys)).1
 obtain ⟨R,hR⟩: ∃R,subS xs ys=R:=⟨_,rfl⟩
 rw[hR]at H1 H2⊢
 obtain ⟨E,hE⟩: ∃E,bothE xs ys=E:=⟨_,rfl⟩
 have HE:=hide hE
 rw[hE]at H1 H2 H3
 clear hE hR
 have hnx:=hx.len
 have hny:=hy.len
 go_enter Tryz.func42,Tryz.ntmps42
 have HX:=hide hx
 clear hx
 have HY:=hide hy
 clear hy
 go_wp2_with fail
 refine (both_ents _ _ _ _ xs HX.out _ _ _ ys HY.out).mono ?_
 rintro e w1 ⟨rfl,hb1⟩
 have HX:=hide (HX.out.below hb1)
 have HY:=hide (HY.out.below hb1)
 have SG2:=hide hb1
 clear hb1
 rw[HE.out]
 by_cases h0:E=0
 ·have HRQ:=hide (H2.out h0)
  obtain ⟨h1,h2⟩:=H3.out h0
  have h3:=bag_le h1
  have h4:=bag_le h2
  have HG1:=hide h1
  have HG2:=hide h2
  subst h0
  have hsz:=SG2.out.size
  clear h1 h2
  go_wp2_with fail
  refine (merge_bag _ (-1) (.inr rfl) _ _ _ _ _ _ xs ys HX.out HY.out (by omega) (bag_bnd HG1.out) (bag_bnd HG2.out) (bag_row HG1.out) (bag_row HG2.out)).mono ?_
  rintro e w3 ⟨⟨v,rfl,ho⟩,hb3⟩
  have SG4:=hide (below_trans SG2.out hb3)
  clear hb3
  have HO:=hide (ho.rebase hsz)
  clear ho
  generalize mergS (mergeL xs (sg (-1) ys))=R2 at*
  obtain rfl:=HRQ.out
  go_wp2
  go_ret2
  exact ⟨⟨_,rfl,HO.out⟩,SG4.out⟩
 ·obtain rfl:=H1.out h0
  have q:(E != 0)=true:=by simpa using h0
  go_wp2
  all_goals (try (exfalso;go_light;simp_all;done))
  go_ret2
  exact ⟨⟨_,rfl,OL.nil SG2.out.size⟩,SG2.out⟩
def gsum:List Ent->List Ent
 | []=>[]
 |x :: l=>match gsum l with
  | []=>[x]
  |y :: m=>if cmpRows x.row y.row=0 then ⟨x.row,x.count+y.count⟩ :: m else x :: y :: m
theorem gsum_head: ∀(x:Ent) (l:List Ent),∃n m,gsum (x :: l)=⟨x.row,n⟩ :: m:=by
 intro x l
 rw[gsum]
 split
 ·exact ⟨_,_,rfl⟩
 ·split
  ·exact ⟨_,_,rfl⟩
  ·exact ⟨_,_,rfl⟩
def sumC:List Ent->Int
 | []=>0
 |x :: l=>x.count+sumC l
theorem sumC_snoc (l:List Ent)(x:Ent):sumC (l++[x])=sumC l+x.count:=by
 induction l with
 |nil=>simp[sumC]
 |cons y l ih=>rw[List.cons_append,sumC,sumC,ih];omega
theorem gsum_seg (r:List Val)(rest:List Ent)(hr: ∀y∈rest.head?,y.row≠r): ∀(seg:List Ent),seg≠[]->(∀x∈seg,x.row=r)->gsum (seg++rest)=⟨r,sumC seg⟩ :: gsum rest
 | [],h,_=>absurd rfl h
 | [x],_,h=>by
  have hx:=h x (by simp)
  rw[List.singleton_append,gsum]
  cases rest with
  |nil=>
   simp only[gsum,sumC]
   obtain ⟨a,b⟩:=x
   simp only at hx
   subst hx
   simp
  |cons y rest=>
   obtain ⟨n,m,e⟩:=gsum_head y rest
   rw[e]
   simp only
   have hy:=hr y (by simp)
   rw[if_neg λq=>hy ((cr_zero.1 q).symm.trans hx)]
   obtain ⟨a,b⟩:=x
   simp only at hx
   subst hx
   simp[sumC]
 |x :: x2 :: seg,_,h=>by
  have hx:=h x (by simp)
  have ih:=gsum_seg r rest hr (x2 :: seg) (by simp) λy hy=>h y (by simp[hy])
  rw[List.cons_append,gsum,ih]
  simp only
  rw[if_pos (cr_zero.2 hx),hx]
  rfl
def RunE (ys:List Ent)(r:List Val)(k q:Nat)(n:Int):Prop:= ∃seg,ys.drop k=seg++ys.drop q/\seg.length=q-k/\(∀x∈seg,x.row=r)/\n=sumC seg/\ -65536*((q:Int)-k)<=n/\n<=65536*((q:Int)-k)
theorem RunE.start (ys:List Ent)(r:List Val)(k:Nat):RunE ys r k k 0:=⟨[],by simp,by simp,by simp,rfl,by omega,by omega⟩
theorem RunE.step {ys:List Ent}{r:List Val}{k q:Nat}{n:Int}(h:RunE ys r k q n)(hk:k<=q){y:Ent}(hy:ys.drop q=y :: ys.drop (q+1))(hr:y.row=r)(hb: -65536<=y.count/\y.count<=65536):RunE ys r k (q+1) (n+y.count):=by
 obtain ⟨seg,h1,h2,h3,h4,h5,h6⟩:=h
 refine ⟨seg++[y],by rw[h1,hy];simp,by simp;omega,λx hx=>?_,by rw[sumC_snoc,h4],by omega,by omega⟩
 rcases List.mem_append.1 hx with hx|hx
 ·exact h3 x hx
 ·simp at hx;subst hx;exact hr
theorem RunE.fin {ys:List Ent}{k q:Nat}{n:Int}{x:Ent}(h:RunE ys x.row k q n)(hx:ys.drop k=x :: ys.drop (k+1))(hq: ∀y∈(ys.drop q).head?,y.row≠x.row):gsum (ys.drop k)=⟨x.row,n⟩ :: gsum (ys.drop q)/\k<q:=by
 obtain ⟨seg,h1,h2,h3,h4,_⟩:=h
 have hne:seg≠[]:=λe=>by
  rw[e,List.nil_append]at h1
  exact hq x (by rw[<-h1,hx];simp) rfl
 refine ⟨by rw[h1,h4];exact gsum_seg x.row _ hq seg hne h3,?_⟩
 cases seg with
 |nil=>exact absurd rfl hne
 |cons _ _=>simp at h2;omega
def cId (nl:Bool):Col:=⟨⟨#[105,100]⟩,2,nl⟩
def cName (nl:Bool):Col:=⟨⟨#[110,97,109,101]⟩,3,nl⟩
theorem col_ok {c:Col}(h1:c.name.size<=4)(h2:0<=c.kind)(h3:c.kind<=4):c.ok:=⟨by unfold Str;omega,by omega,by omega⟩
theorem cells_cols (xs:List Col)(w:World)(S:Nat->Prop)(h: ∀x∈xs,x.ok):Cells w S (xs.flatMap Col.cells) xs:=by
 induction xs with
 |nil=>rfl
 |cons x l ih=>exact ⟨x.cells,_,rfl,⟨rfl,h x (by simp)⟩,ih λy hy=>h y (by simp[hy])⟩
theorem new_grown {α:Type}[Rep α]{w w2 w3:World}{gb:Nat}{A:Option Addr}{n c:Nat}{xs:List α}{t:Nat}(ht:t≠51)(hb:TyAt w2 51 gb)(hg:w2.grownBy w3 (some gb))(h:Sl w2 (New w w2 t) A n c xs):Sl w3 (New w w3 t) A n c xs:=by
 have hs: ∀k,TyAt w2 t k->w3.heap[k]?=w2.heap[k]?:=λk hk=>hg.block k hk.lt λe=>by
  injection e with e
  exact TyAt.ne hk hb ht e
 refine (h.keep λk hk=>hs k hk.2).mono λk hk=>⟨hk.1,?_⟩
 obtain ⟨q,hq⟩:=hk.2
 exact ⟨q,(hs k hk.2).trans hq⟩
theorem fresh_grown {w w2 w3:World}{gb:Nat}{v:Value}{zs:List Ent}(hb:TyAt w2 51 gb)(hg:w2.grownBy w3 (some gb))(h:FreshEnts w w2 v zs):FreshEnts w w3 v zs:=
 h.kept hg (by
  by_cases q:v.ownBlock=some gb
  ·exact absurd rfl (TyAt.ne (h.row q).2.2 hb (by decide))
  ·exact .inr q) λk e hk=>by
   injection e with e
   exact TyAt.ne hk hb (by decide) e.symm
def TEnt (cols:List Col)(x:Ent):Prop:=x.row.length=cols.length/\(∀i,i<cols.length->Fits (cols.getD i default) (x.row.getD i default))/\1<=x.count/\x.count<=2
structure TabAt (w W:World) (gb:Nat) (A:Option Addr) (n c:Nat) (l:List Int) (cols:List Col) (v:Value) (xs:List Ent):Prop where
 fresh:FreshEnts w W v xs
 ents: ∀x∈xs,TEnt cols x
 num: ∃j,Num W gb A n c l j
 grown:w.grownBy W (some gb)
theorem half_small {x:Int}(h0:0<=x)(h1:x<3):x.tdiv 2=x / 2/\0<=x / 2/\x / 2<=1:=⟨Int.tdiv_eq_ediv_of_nonneg h0,by omega,by omega⟩
theorem tableW_any (w:World)(gb:Nat)(A:Option Addr)(n c:Nat)(l:List Int)(i:Nat)(hN:Num w gb A n c l i)(A1:Option Addr)(n1 c1:Nat)(cols:List Col)(hc:Off w gb A1 n1 c1 cols)(hgood: ∀x∈cols,x.good)(hn1:n1<=12)(m:Int)(hm0:0<=m)(hm:m<=1000):
  Calls Tryz.prog 33 #[.slice A1 n1 c1,.pointer (some ⟨gb,0,none⟩),.int .i64 m] w
   λe w'=> ∃v xs zs q j,e=.returned v/\FreshEnts w w' v zs/\(∀x∈xs,TEnt cols x)/\xs.length<=1000/\Normed xs q zs/\Num w' gb A n c l j/\w.grownBy w' (some gb):=by
 obtain ⟨i0,hi,hz0,hz1,hz2⟩:=info_parts ent_info
 have hlow:=hN.lt
 have hcl:=hide hc.inn.len
 have q0:IntKind.i64.wrap (m+1)=m+1:=IntWalk.i64_in _ (by omega)
 go_enter Tryz.func33,Tryz.ntmps33
 go_wp2_with fail
 refine (next_any w gb A n c l i hN (m+1) (by omega)).mono ?_
 rintro e w1 ⟨⟨s,j,rfl,s0,s1,hn1'⟩,hg1⟩
 have s1:=s1 (by omega)
 have HT0:Hid (TabAt w w1 gb A n c l cols (.slice none 0 0) []):=hide ⟨FreshEnts.nil _ _,(λx hx=>by cases hx),⟨_,hn1'⟩,hg1⟩
 clear hn1' hg1 hN
 obtain ⟨s,rfl⟩: ∃s':Nat,s=(s':Int):=⟨s.toNat,by omega⟩
 have s2:s<=1000:=by omega
 clear s0 s1
 go_wp2
 go_loopw [7,8] (λo q wr=> ∃(k:Nat) (xs:List Ent),q=.int .i64 k/\xs.length+k<=1000/\TabAt w wr gb A n c l cols o xs) (λ_ q _=>(intOf q).toNat)
 case atStart=>exact ⟨s,[],rfl,by simp;omega,HT0.out⟩
 case round=>
  obtain ⟨k,xs,rfl,hlen,hT⟩:=hrel
  have HT:=hide hT
  clear hT
  obtain ⟨j2,hnum⟩:=HT.out.num
  have hszr:=HT.out.grown.size
  by_cases hk:0<k
  ·have k0:(0:Int)<(k:Int):=by omega
   have k2:IntKind.i64.wrap ((k:Int)-1)=(k:Int)-1:=IntWalk.i64_in _ (by omega)
   go_wp2_with fail
   refine (rowW_any wr gb A n c l j2 hnum A1 n1 c1 cols (hc.grown HT.out.grown) hgood (by omega)).mono ?_
   rintro e w2 ⟨B,d,vs,rfl,hR⟩
   obtain ⟨j3,hn3⟩:=hR.num
   have HR:=hide hR
   have HN3:=hide hn3
   clear hR
   go_wp2_with fail
   refine (next_any w2 gb A n c l j3 hn3 3 (by omega)).mono ?_
   rintro e w3 ⟨⟨x,j4,rfl,x0,x1,hn4⟩,hg4⟩
   have x1:=x1 (by omega)
   obtain ⟨p1,p2,p3⟩:=half_small x0 x1
   have p4:IntKind.i64.wrap (x / 2)=x / 2:=IntWalk.i64_in _ (by omega)
   have p5:IntKind.i64.wrap (1+x / 2)=1+x / 2:=IntWalk.i64_in _ (by omega)
   have HN4:=hide hn4
   have HG4:=hide hg4
   have hnum':=hnum
   clear hnum hn3 hn4 hg4
   have HSZ3:Hid (w.heap.size<=w3.heap.size):=hide (Nat.le_trans (Nat.le_trans hszr HR.out.grown.size) HG4.out.size)
   have hsz3:=HSZ3.out
   have HF3:=hide (fresh_grown HN3.out.blk.ty HG4.out (fresh_grown hnum'.blk.ty HR.out.grown HT.out.fresh))
   have HSL:Hid (Sl w2 (New w w2 74) B n1 d vs):=hide (by
    have hl:=HR.out.len
    obtain ⟨A',c',hv,hs,_⟩:=sl_of_own (S:=λ_=>False) (T:=New w w2 74) HR.out.stk.own (cells_flat w2 _ HR.out.stk.ok) (λ_ h=>h.elim) rfl (λg hg ht=>⟨Nat.le_trans hszr hg,ht⟩)
    injection hv with h1 _ h3
    subst h1 h3
    rw[hl]at hs
    exact hs)
   have HSL3:=hide (new_grown (by decide) HN3.out.blk.ty HG4.out HSL.out)
   have HENT:Hid (TEnt cols ⟨vs,1+x / 2⟩):=hide ⟨by show vs.length=_;rw[HR.out.len,hcl.out],λi hi=>HR.out.fits i (by rw[<-hcl.out];exact hi),by show 1<=1+x / 2;omega,by show 1+x / 2<=2;omega⟩
   obtain ⟨cs,hown,hcells⟩:=HF3.out
   obtain ⟨kx,hkx⟩: ∃kx,xs.length=kx:=⟨_,rfl⟩
   rw[hkx]at hown
   have HKX:=hide hkx
   have hkx1:kx<=1000:=by omega
   have HOW:=hide hown
   have HCE:=hide hcells
   clear hkx hown hcells
   go_wp2_with (at_builtin;refine wpList_append_src _ rfl (.tmp 19) (.tmp 28) 30 rfl w.heap.size 61 i0 _ 2 32 Tryz.underlying30 hi hz0 hz1 hz2 rfl (by decide) u7 kx cs rfl (HOW.out.alloc _) (some ⟨w3.heap.size,0,none⟩) 1 1 [.slice B n1 d,.int .i64 (1+x / 2)] rfl (by intro h;cases h) (src_two (by simp[go_sem]) (by simp[go_sem])) one_ent (by simp only[maxLen];omega) (by omega) (by simp;omega) ?_;intro v1 w5 hown1 hg1 hat1)
   have HBX:Hid (Below w.heap.size (w3.alloc (.cells #[.slice B n1 d,.int .i64 (1+x / 2)] 61)) w5):=hide ((Below.refl _ _).grown hg1 (by simp;omega) (λj e=>(HOW.out.lt j e).1))
   have HTN:Hid (TabAt w w5 gb A n c l cols v1 (xs++[⟨vs,1+x / 2⟩])):=hide (by
    refine ⟨FreshEnts.add (x:=⟨vs,1+x / 2⟩) (by rw[HKX.out];exact HOW.out.alloc _) ((HCE.out.keep ((Same.below below_alloc).sub λk hk=>hk.2.lt)).mono λk hk=>⟨hk.1,hk.2.below below_alloc⟩) ((HSL3.out.keep ((Same.below below_alloc).sub λk hk=>hk.2.lt)).mono λk hk=>⟨hk.1,hk.2.below below_alloc⟩) ⟨by show -9223372036854775808<=1+x / 2;omega,by show 1+x / 2<=9223372036854775807;omega⟩ (λk hk hne=>hg1.block k hk (λe=>hne e.symm)) (by rw[HKX.out];exact hown1),λy hy=>?_,⟨j4,(HN4.out.below below_alloc).low HBX.out hlow⟩,grown_low (((HT.out.grown.trans HR.out.grown).trans HG4.out).trans (Below.grows below_alloc _)) HBX.out⟩
    rcases List.mem_append.1 hy with hy|hy
    ·exact HT.out.ents y hy
    ·simp at hy;subst hy;exact HENT.out)
   clear hown1 hg1 hat1
   go_wp2
   go_roundw
   case rel=>exact ⟨k-1,xs++[⟨vs,1+x / 2⟩],by go_num,by rw[List.length_append];show xs.length+1+(k-1)<=1000;omega,HTN.out⟩
   case measure=>simp[intOf];omega
  ·have hk0:k=0:=by omega
   subst hk0
   obtain ⟨A7,c7,rfl,hin⟩:=HT.out.fresh.sl
   go_wp2_with fail
   refine (normalize_ref wr A7 _ c7 xs hin (by omega)).mono ?_
   rintro e w2 ⟨⟨v,q,zs,rfl,hf,hn⟩,hb2⟩
   have HF:=hide (hf.base hszr)
   have HN:=hide hn
   have HB2:=hide hb2
   have HNU:=hide hnum
   clear hf hn hb2 hnum hin
   go_wp2
   go_ret
   exact ⟨v,xs,zs,q,j2,rfl,HF.out,HT.out.ents,by omega,HN.out,HNU.out.below HB2.out,HT.out.grown.trans (Below.grows HB2.out _)⟩
section
variable {P:Program}
end
def Hi {α:Type}[Rep α](B:Nat)(w:World)(A:Option Addr)(n c:Nat)(xs:List α):Prop:=Sl w (λk=>B<=k/\k<w.heap.size) A n c xs
section
variable {α:Type}[Rep α]{B gb:Nat}{w w':World}{A:Option Addr}{n c:Nat}{xs:List α}
theorem Hi.inn (h:Hi B w A n c xs):In w A n c xs:=Sl.mono (λk hk=>hk.2) h
theorem Hi.off (h:Hi B w A n c xs)(hg:gb<B):Off w gb A n c xs:=Sl.mono (λk hk=>⟨hk.2,by omega⟩) h
theorem Hi.grown {row:Option Nat}(h:Hi B w A n c xs)(hg:w.grownBy w' row)(hr: ∀k,row=some k->k<B):Hi B w' A n c xs:=
 (Sl.keep (λk hk=>hg.block k hk.2 λe=>by have:=hr k e.symm;omega) h).mono λk hk=>⟨hk.1,Nat.lt_of_lt_of_le hk.2 hg.size⟩
theorem Hi.below (h:Hi B w A n c xs)(hb:Below w.heap.size w w'):Hi B w' A n c xs:=h.grown (row:=none) (Below.grows hb _) λk e=>by cases e
theorem hi_of (h:In w A n c xs)(hr: ∀(S T:Nat->Prop) (cs:List Value) (a:α),Rep.rd w S cs a->Rep.rd w T cs a)(hb: ∀b off,A=some ⟨b,off,none⟩->B<=b):Hi B w A n c xs:=by
 refine ⟨h.1,h.2.1,h.2.2.1,h.2.2.2.1,λhn=>?_⟩
 obtain ⟨b,off,e,hlt,hi⟩:=h.2.2.2.2 hn
 refine ⟨b,off,e,⟨hb b off e,hlt⟩,λi hi'=>?_⟩
 obtain ⟨cs,h1,h3⟩:=hi i hi'
 exact ⟨cs,hr _ _ cs _ h1,h3⟩
end
theorem FreshEnts.hi {w w':World}{v:Value}{zs:List Ent}(h:FreshEnts w w' v zs): ∃A c,v=.slice A zs.length c/\Hi w.heap.size w' A zs.length c zs:=by
 obtain ⟨cs,h1,h2⟩:=h
 obtain ⟨A,c,e,hs,_⟩:=sl_of_own (T:=λk=>w.heap.size<=k/\k<w'.heap.size) h1 h2 (λk hk=>⟨hk.1,hk.2.lt⟩) rfl (λg hb hg=>⟨hb,hg.lt⟩)
 exact ⟨A,c,e,hs⟩
def TabOf (cols:List Col)(zs:List Ent):Prop:= ∃xs q,(∀x∈xs,TEnt cols x)/\xs.length<=1000/\Normed xs q zs
end Go.Proofs.YtggejcekmehocaaGreatDoor
