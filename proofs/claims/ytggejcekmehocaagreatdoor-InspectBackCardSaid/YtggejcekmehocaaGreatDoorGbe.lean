/-
  Plain law: what inspections answer where tables and their changes are given: Build, Apply, its opposite, the rows that are not concerned. No program is in sight. Plain: the checks of chapter 29's laws have no error; its closed example. No program is in sight. warehouselaw29: row, columns, same; its closed example.
-/
import Derived.Test.YtggejcekmehocaaGreatDoorGaz
import Derived.Test.YtggejcekmehocaaGreatDoorInsI
import Derived.Test.YtggejcekmehocaaGreatDoorGax
import Derived.Test.YtggejcekmehocaaGreatDoorGbc
import Derived.Test.YtggejcekmehocaaGreatDoorGal
import Derived.Test.YtggejcekmehocaaGreatDoorGav
import Derived.Test.YtggejcekmehocaaGreatDoorBlk
namespace Go.Proofs.YtggejcekmehocaaGreatDoor
set_option maxHeartbeats 4000000
set_option maxRecDepth 100000
set_option linter.unusedSimpArgs false
set_option linter.unusedVariables false
def inspOf (c:Chk)(cols:List Col)(r o:List Ent):Insp:=
 ⟨r,if usesO c.kind=true then o else [],r.filter λx=>violB c cols cols r (if usesO c.kind=true then o else []) [] x.row⟩
theorem violB_o (c:Chk)(cols:List Col)(r o:List Ent)(row:List Val):violB c cols cols r o [] row=violB c cols cols r (if usesO c.kind=true then o else []) [] row:=by
 cases h:usesO c.kind
 ·have h3:¬c.kind=3:=λe=>by rw[usesO,e]at h;simp at h
  rw[if_neg (by simp),violB,violB]
  simp only[if_neg h3]
 ·rw[if_pos rfl]
theorem build_insp {c:Chk}{cols:List Col}{r o:List Ent}(hc:chkErr c cols cols []=0)(hr:tabErr cols r=0)(ho:usesO c.kind=true->tabErr cols o=0):buildS c cols cols r o []=(0,inspOf c cols r o):=by
 have hE:allErr c cols cols r o []=0:=by
  rw[allErr,if_neg (by simp[hc]),if_neg (by simp[hr])]
  split
  ·next h=>exact ho h
  ·rfl
 have hV:violS c cols cols r o []=(0,r.filter λx=>violB c cols cols r o [] x.row):=by rw[violS,if_neg (by simp[hE])]
 rw[buildS,if_neg (by simp[hE]),hV,inspOf]
 simp only[<-violB_o]
theorem insp_o (c:Chk)(cols:List Col)(r o:List Ent):inspOf c cols r (if usesO c.kind=true then o else [])=inspOf c cols r o:=by
 rw[inspOf,inspOf]
 cases h:usesO c.kind <;> simp
theorem insp_viol {c:Chk}{cols:List Col}{r o:List Ent}(hb:bagErr r=0)(hp: ∀x∈r,0<x.count):bagErr (inspOf c cols r o).viol=0/\(∀x∈(inspOf c cols r o).viol,0<x.count)/\(inspOf c cols r o).viol.length<=r.length:=
 ⟨bagErr_filter hb _,λx hx=>hp x (List.mem_filter.1 hx).1,List.length_filter_le _ _⟩
theorem apply_insp {c:Chk}{cols:List Col}{r o x y R O:List Ent}{L M:Nat}(hc:chkErr c cols cols []=0)(hr:Tb cols L M r)(h1:addS r x=(0,R))(h2:usesO c.kind=true->addS o y=(0,O))(hR:Tb cols L M R)(hO:usesO c.kind=true->tabErr cols O=0)(hL:L+L<=4096):
  applyS c (inspOf c cols r o) cols cols x y []=(0,inspOf c cols R O,(subS (inspOf c cols R O).viol (inspOf c cols r o).viol).2):=by
 obtain ⟨v1,v2,v3⟩:=insp_viol (c:=c) (cols:=cols) (o:=o) hr.bag λx hx=>(hr.pos x hx).1
 obtain ⟨u1,u2,u3⟩:=insp_viol (c:=c) (cols:=cols) (o:=O) hR.bag λx hx=>(hR.pos x hx).1
 have hs:=(sub_pos u1 v1 u2 v2 (by have:=hr.len;have:=hR.len;omega)).1
 have hS:sumsS c (inspOf c cols r o) x y=(0,R,if usesO c.kind=true then O else []):=by
  have e1:(inspOf c cols r o).rows=r:=rfl
  rw[sumsS,e1,h1,if_neg (by simp)]
  cases h:usesO c.kind
  ·simp
  ·have e2:(inspOf c cols r o).other=o:=by rw[inspOf,h];rfl
   rw[e2,h2 h]
   simp
 have hB:buildS c cols cols R (if usesO c.kind=true then O else []) []=(0,inspOf c cols R O):=by
  rw[build_insp hc hR.err λh=>by rw[if_pos h];exact hO h,insp_o]
 rw[applyS,hS,if_neg (by simp),hB,applyT,if_neg (by simp),if_neg (by simpa using hs)]
theorem insp_back {c:Chk}{cols:List Col}{r o x y:List Ent}{L M m:Nat}(hc:chkErr c cols cols []=0)(hr:Tb cols L M r)(ho:Tb cols L M o)(hx:Mv cols r x m)(hy:Mv cols o y m)(hL:(L+m)+(L+m)<=4096)(hM:M+m<=65536):
  ∃R O a b,buildS c cols cols r o []=(0,inspOf c cols r o)/\applyS c (inspOf c cols r o) cols cols x y []=(0,inspOf c cols R O,a)/\
   negS x=(0,sg (-1) x)/\negS y=(0,sg (-1) y)/\applyS c (inspOf c cols R O) cols cols (sg (-1) x) (sg (-1) y) []=(0,inspOf c cols r o,b)/\addS a b=(0,[])/\Tb cols (L+m) (M+m) R/\(usesO c.kind=true->Tb cols (L+m) (M+m) O):=by
 obtain ⟨a1,a2,a3⟩:=hx.sum hr (by omega) hM
 obtain ⟨b1,b2,b3⟩:=hy.sum ho (by omega) hM
 have hr':Tb cols (L+m) (M+m) r:=⟨hr.err,by have:=hr.len;omega,λx hx=>by have:=hr.top x hx;omega⟩
 have ho':Tb cols (L+m) (M+m) o:=⟨ho.err,by have:=ho.len;omega,λx hx=>by have:=ho.top x hx;omega⟩
 obtain ⟨v1,v2,v3⟩:=insp_viol (c:=c) (cols:=cols) (o:=o) hr.bag λx hx=>(hr.pos x hx).1
 obtain ⟨u1,u2,u3⟩:=insp_viol (c:=c) (cols:=cols) (o:=(addS o y).2) a2.bag λx hx=>(a2.pos x hx).1
 refine ⟨(addS r x).2,(addS o y).2,_,_,build_insp hc hr.err λ_=>ho.err,apply_insp hc hr' (Prod.ext a1 rfl) (λ_=>Prod.ext b1 rfl) a2 (λ_=>b2.err) hL,negS_bag hx.bag,negS_bag hy.bag,apply_insp hc a2 (hx.back hr (by omega) hM) (λ_=>hy.back ho (by omega) hM) hr' (λ_=>ho.err) hL,sub_back u1 v1 u2 v2 (by have:=hr.len;have:=a2.len;omega),a2,λ_=>b2⟩
theorem cnt_filter_if (p:List Val->Bool)(l:List Ent)(q:List Val):cnt (l.filter λx=>p x.row) q=if p q=true then cnt l q else 0:=by
 by_cases h:p q=true
 ·rw[if_pos h,cnt_filter_of λx _ e=>by rw[e];exact h]
 ·rw[if_neg h,cnt_filter_no λx _ e=>by rw[e];simpa using h]
theorem grp_same {cols:List Col}{names:List ByteArray}{a b:List Ent}(ha:bagErr a=0)(hb:bagErr b=0){p:List Val}(h: ∀q,pickN cols names q=p->cnt a q=cnt b q):grp cols names a p=grp cols names b p:=
 bag_ext (bagErr_filter ha _) (bagErr_filter hb _) λq=>by
  show cnt (a.filter λx=>sameV (pickN cols names x.row) p) q=cnt (b.filter λx=>sameV (pickN cols names x.row) p) q
  rw[cnt_filter_if (λs=>sameV (pickN cols names s) p),cnt_filter_if (λs=>sameV (pickN cols names s) p)]
  split
  ·next e=>exact h q (sameV_iff.1 e)
  ·rfl
theorem hasT_no {cols:List Col}{names:List ByteArray}(hc:colsErr cols=0)(hi:(indsS cols names).1=0){x:List Ent}(hx: ∀e∈x,rowErr cols e.row=0){p:List Val}(hp:p.length<=12)(hv: ∀v∈p,valid v=true)(h:hasT cols names x (textS p)=false): ∀q,pickN cols names q=p->cnt x q=0:=λq hq=>by
 refine cnt_none λe he h0=>?_
 rw[hasT,List.any_eq_false]at h
 have h1:=h e he
 have h2:=cr_zero.1 h0
 have h3:=pickN_fit hc hi (hx e he)
 rw[h2,hq]at h1
 simp at h1
theorem insp_leaves {c:Chk}{cols:List Col}{r o x y R O:List Ent}{L M m:Nat}(hc:chkErr c cols cols []=0)(hr:Tb cols L M r)(ho:Tb cols L M o)(hx:Mv cols r x m)(hy:Mv cols o y m)(hL:L+m<=4096)(hM:M+m<=65536)(h1:addS r x=(0,R))(h2:addS o y=(0,O))(row:List Val)(h:cntF (R.filter λe=>concB c cols cols x y e.row) row=0)(hm: ∃e∈R,e.row=row):cntF (inspOf c cols r o).viol row=cntF (inspOf c cols R O).viol row:=by
 obtain ⟨a1,a2,a3⟩:=hx.sum hr hL hM
 obtain ⟨b1,b2,b3⟩:=hy.sum ho hL hM
 rw[h1]at a2 a3
 rw[h2]at b2 b3
 simp only at a2 a3 b2 b3
 obtain ⟨c1,c2,c3⟩:=chk_zero hc
 have hfR:=bag_asc (bagErr_filter a2.bag λe=>concB c cols cols x y e.row)
 rw[hfR.cntF,cnt_filter_if (λs=>concB c cols cols x y s)]at h
 obtain ⟨e,he,rfl⟩:=hm
 have he1:=(bag_asc a2.bag).mem he
 have he2:=(a2.pos e he).1
 have hcb:concB c cols cols x y e.row=false:=by
  cases g:concB c cols cols x y e.row
  ·rfl
  ·rw[g,if_pos rfl]at h;omega
 rw[concB,Bool.or_eq_false_iff,(bag_asc hx.bag).cntF]at hcb
 obtain ⟨g1,g2⟩:=hcb
 have g1:cnt x e.row=0:=by simpa using g1
 have hrow:=a2.fit e he
 have hv:violB c cols cols r (if usesO c.kind=true then o else []) [] e.row=violB c cols cols R (if usesO c.kind=true then O else []) [] e.row:=by
  rw[<-violB_o,<-violB_o]
  by_cases k0:c.kind=0
  ·obtain ⟨i1,_⟩:=c3 (by rw[usesC,k0];rfl)
   rw[concV,if_pos k0]at g2
   have hp:=pickN_fit c2 i1 hrow
   rw[violB,violB,if_pos k0,if_pos k0,grp_same hr.bag a2.bag λq hq=>by rw[a3,hasT_no c2 i1 hx.fit hp.2.1 hp.2.2 g2 q hq];omega]
  ·by_cases k3:c.kind=3
   ·have hu:usesO c.kind=true:=by rw[usesO,k3];rfl
    obtain ⟨i1,_,_,i2⟩:=c3 (by rw[usesC,k3];rfl)
    obtain ⟨_,i3,_⟩:=i2 hu
    rw[concV,if_neg k0,if_pos k3]at g2
    have hp:=pickN_fit c2 i1 hrow
    rw[violB,violB]
    simp only[if_neg k0,if_pos k3]
    rw[grp_same ho.bag b2.bag λq hq=>by rw[b3,hasT_no c2 i3 hy.fit hp.2.1 hp.2.2 g2 q hq];omega]
   ·rw[violB,violB]
    simp only[if_neg k0,if_neg k3]
 have v1:=bag_asc (insp_viol (c:=c) (cols:=cols) (o:=o) hr.bag λx hx=>(hr.pos x hx).1).1
 have v2:=bag_asc (insp_viol (c:=c) (cols:=cols) (o:=O) a2.bag λx hx=>(a2.pos x hx).1).1
 rw[v1.cntF,v2.cntF]
 show cnt (r.filter λx=>violB c cols cols r (if usesO c.kind=true then o else []) [] x.row) e.row=cnt (R.filter λx=>violB c cols cols R (if usesO c.kind=true then O else []) [] x.row) e.row
 rw[cnt_filter_if (λs=>violB c cols cols r (if usesO c.kind=true then o else []) [] s),cnt_filter_if (λs=>violB c cols cols R (if usesO c.kind=true then O else []) [] s),hv,a3,g1]
 simp
theorem insp_conc {c:Chk}{cols:List Col}{r o x y:List Ent}{L M m:Nat}(hc:chkErr c cols cols []=0)(hr:Tb cols L M r)(ho:Tb cols L M o)(hx:Mv cols r x m)(hy:Mv cols o y m)(hL:(L+m)+(L+m)<=4096)(hM:M+m<=65536):
  ∃R O a C,buildS c cols cols r o []=(0,inspOf c cols r o)/\applyS c (inspOf c cols r o) cols cols x y []=(0,inspOf c cols R O,a)/\concS c (inspOf c cols r o) cols cols x y []=(0,C)/\
   ∀e∈(inspOf c cols R O).rows,cntF C e.row=0->cntF (inspOf c cols r o).viol e.row=cntF (inspOf c cols R O).viol e.row:=by
 obtain ⟨a1,a2,a3⟩:=hx.sum hr (by omega) hM
 obtain ⟨b1,b2,b3⟩:=hy.sum ho (by omega) hM
 have hr':Tb cols (L+m) (M+m) r:=⟨hr.err,by have:=hr.len;omega,λx hx=>by have:=hr.top x hx;omega⟩
 have E2:=apply_insp hc hr' (R:=(addS r x).2) (O:=(addS o y).2) (Prod.ext a1 rfl) (λ_=>Prod.ext b1 rfl) a2 (λ_=>b2.err) hL
 refine ⟨(addS r x).2,(addS o y).2,_,_,build_insp hc hr.err λ_=>ho.err,E2,by rw[concS,E2,if_neg (by simp)],λe he h=>?_⟩
 exact insp_leaves hc hr ho hx hy (by omega) hM (Prod.ext a1 rfl) (Prod.ext b1 rfl) e.row h ⟨e,he,rfl⟩
theorem m29_err: ∀c∈made29,chkErr c c29 c29 []=0:=by decide+kernel
theorem m29_len: ∀c∈made29,c.cols.length<=4096/\c.ocols.length<=4096:=by decide+kernel
def k29R:List Ent:=[⟨[iV 1,iV 1],1⟩,⟨[iV 2,iV 1],1⟩]
def k29X:List Ent:=[⟨[iV 1,iV 2],1⟩]
theorem k29_build:buildS k28C k28Cols [] k29R [] []=(0,⟨k29R,[],[]⟩):=by
 have h1:allErr k28C k28Cols [] k29R [] []=0:=by decide+kernel
 have h2:(k29R.filter λx=>violB k28C k28Cols [] k29R [] [] x.row)=[]:=List.eq_nil_of_length_eq_zero (by decide+kernel)
 have hV:violS k28C k28Cols [] k29R [] []=(0,[]):=by rw[violS,if_neg (by simp[h1]),h2]
 rw[buildS,if_neg (by simp[h1]),hV]
 rfl
theorem k29_conc:(concS k28C ⟨k29R,[],[]⟩ k28Cols [] k29X [] []).1=0/\(concS k28C ⟨k29R,[],[]⟩ k28Cols [] k29X [] []).2.length=2:=by decide+kernel
theorem k29_apply:(applyS k28C ⟨k29R,[],[]⟩ k28Cols [] k29X [] []).1=0/\(applyS k28C ⟨k29R,[],[]⟩ k28Cols [] k29X [] []).2.1.rows.length=3/\(applyS k28C ⟨k29R,[],[]⟩ k28Cols [] k29X [] []).2.1.viol.length=2/\(applyS k28C ⟨k29R,[],[]⟩ k28Cols [] k29X [] []).2.2.length=2/\((applyS k28C ⟨k29R,[],[]⟩ k28Cols [] k29X [] []).2.2.getD 0 ⟨[],0⟩).count=1:=by decide+kernel
open Go.RowKit Go.Maps
theorem iV_ok {n:Int}(h0:0<=n)(h1:n<=1000):Val.ok (iV n):=⟨⟨by show (-9223372036854775808:Int)<=2;decide,by show (2:Int)<=9223372036854775807;decide⟩,⟨by show (-9223372036854775808:Int)<=n;omega,by show n<=(9223372036854775807:Int);omega⟩,by show (⟨#[]⟩:ByteArray).size<=9223372036854775807;decide⟩
theorem row29_any (w:World)(a b:Int)(ha:0<=a)(ha2:a<=1000)(hb:0<=b)(hb2:b<=1000):Calls Tryz.prog 36 #[.int .i64 a,.int .i64 b] w
  λe w'=>(∃A c,e=.returned (.slice A 2 c)/\OL 74 w.heap.size (λ_=>False) [] w' (.slice A 2 c) [iV a,iV b])/\Below w.heap.size w w':=by
 have va:=iV_ok ha ha2
 have vb:=iV_ok hb hb2
 go_enter Tryz.func36,Tryz.ntmps36
 go_wp2
 go_ret
 exact ⟨⟨_,_,rfl,OL.built (Nat.le_refl _) (by decide) rfl rfl ⟨[_,_,_],[_,_,_],rfl,⟨rfl,va⟩,Cells.one ⟨rfl,vb⟩⟩⟩,below_alloc⟩
theorem columns29_any (w:World):Calls Tryz.prog 21 #[] w
  λe w'=>(e=.returned (.slice (some ⟨w.heap.size,0,none⟩) 3 3)/\In w' (some ⟨w.heap.size,0,none⟩) 3 3 c29)/\Below w.heap.size w w':=by
 go_enter Tryz.func21,Tryz.ntmps21
 go_wp2
 go_ret
 exact ⟨⟨rfl,in_built (heap_alloc_new w _) (cells_cols c29 _ _ λx hx=>(c29_good x hx).1) rfl (by decide)⟩,below_alloc⟩
theorem same29_any (w:World)(i:Insp)(B7:Option Addr)(m7 d7:Nat)(hi7:In w B7 m7 d7 i.rows)(B8:Option Addr)(m8 d8:Nat)(hi8:In w B8 m8 d8 i.other)(B9:Option Addr)(m9 d9:Nat)(hi9:In w B9 m9 d9 i.viol)(C7:Option Addr)(n7 e7:Nat)(hj7:In w C7 n7 e7 i.rows)(C8:Option Addr)(n8 e8:Nat)(hj8:In w C8 n8 e8 i.other)(C9:Option Addr)(n9 e9:Nat)(hj9:In w C9 n9 e9 i.viol):
  Calls Tryz.prog 15 #[.agg #[.slice B7 m7 d7,.slice B8 m8 d8,.slice B9 m9 d9],.agg #[.slice C7 n7 e7,.slice C8 n8 e8,.slice C9 n9 e9]] w λe w'=>e=.returned (.bool true)/\Below w.heap.size w w':=by
 go_enter Tryz.func15,Tryz.ntmps15
 have I7:=hide hi7
 clear hi7
 have I8:=hide hi8
 clear hi8
 have I9:=hide hi9
 clear hi9
 have J7:=hide hj7
 clear hj7
 have J8:=hide hj8
 clear hj8
 have J9:=hide hj9
 clear hj9
 go_wp2_with fail
 obtain ⟨W1,hW1⟩: ∃W,W=w.alloc (.cells #[.slice B7 m7 d7,.slice B8 m8 d8,.slice B9 m9 d9] 36):=⟨_,rfl⟩
 obtain ⟨hbW1,SZW1,g0,g1,g2⟩:=boxed3 hW1 rfl
 rw[<-hW1]
 clear hW1
 have I7:=hide (I7.out.below hbW1)
 have I8:=hide (I8.out.below hbW1)
 have I9:=hide (I9.out.below hbW1)
 have J7:=hide (J7.out.below hbW1)
 have J8:=hide (J8.out.below hbW1)
 have J9:=hide (J9.out.below hbW1)
 have SG1:=hide hbW1
 clear hbW1
 have LR:=lt_of_cell g0
 obtain ⟨W2,hW2⟩: ∃W,W=W1.alloc (.cells #[.slice C7 n7 e7,.slice C8 n8 e8,.slice C9 n9 e9] 36):=⟨_,rfl⟩
 obtain ⟨hbW2,SZW2,r0,r1,r2⟩:=boxed3 (b:=w.heap.size+1) hW2 (by rw[SZW1.out])
 rw[<-hW2]
 clear hW2
 have I7:=hide (I7.out.below hbW2)
 have I8:=hide (I8.out.below hbW2)
 have I9:=hide (I9.out.below hbW2)
 have J7:=hide (J7.out.below hbW2)
 have J8:=hide (J8.out.below hbW2)
 have J9:=hide (J9.out.below hbW2)
 obtain ⟨g0,g1,g2,LR⟩:=bats3 hbW2 LR g0 g1 g2
 have SG2:=hide (below_trans SG1.out hbW2)
 clear hbW2
 have L2:=lt_of_cell r0
 go_wp2_with fail
 refine (sameEnts_any _ _ _ _ _ _ _ i.rows i.rows I7.out J7.out).mono ?_
 rintro e w3 ⟨⟨b1,rfl,q1⟩,hb3⟩
 have I8:=hide (I8.out.below hb3)
 have I9:=hide (I9.out.below hb3)
 have J8:=hide (J8.out.below hb3)
 have J9:=hide (J9.out.below hb3)
 obtain ⟨g0,g1,g2,LR⟩:=bats3 hb3 LR g0 g1 g2
 obtain ⟨r0,r1,r2,L2⟩:=bats3 hb3 L2 r0 r1 r2
 have SG4:=hide (below_trans SG2.out hb3)
 clear hb3
 obtain rfl:=q1.2 rfl
 clear q1
 go_wp2_with fail
 refine (sameEnts_any _ _ _ _ _ _ _ i.other i.other I8.out J8.out).mono ?_
 rintro e w5 ⟨⟨b2,rfl,q2⟩,hb5⟩
 have I9:=hide (I9.out.below hb5)
 have J9:=hide (J9.out.below hb5)
 obtain ⟨g0,g1,g2,LR⟩:=bats3 hb5 LR g0 g1 g2
 obtain ⟨r0,r1,r2,L2⟩:=bats3 hb5 L2 r0 r1 r2
 have SG6:=hide (below_trans SG4.out hb5)
 clear hb5
 obtain rfl:=q2.2 rfl
 clear q2
 go_wp2_with fail
 refine (sameEnts_any _ _ _ _ _ _ _ i.viol i.viol I9.out J9.out).mono ?_
 rintro e w7 ⟨⟨b3,rfl,q3⟩,hb7⟩
 obtain ⟨g0,g1,g2,LR⟩:=bats3 hb7 LR g0 g1 g2
 obtain ⟨r0,r1,r2,L2⟩:=bats3 hb7 L2 r0 r1 r2
 have SG8:=hide (below_trans SG6.out hb7)
 clear hb7
 obtain rfl:=q3.2 rfl
 clear q3
 go_wp2
 go_ret
 exact ⟨rfl,SG8.out⟩
theorem e29_in {V:World}{g:Nat}{A1 A2:Option Addr}{d1 d2:Nat}(hb:Blk V g 61 [.slice A1 2 d1,.int .i64 1,.slice A2 2 d2,.int .i64 1])(h1:In V A1 2 d1 [iV 1,iV 1])(h2:In V A2 2 d2 [iV 2,iV 1]):In V (some ⟨g,0,none⟩) 2 2 k29R:=
 in_built hb ⟨[_,_],[_,_],rfl,⟨_,_,_,rfl,h1,⟨by decide,by decide⟩⟩,Cells.one ⟨_,_,_,rfl,h2,⟨by decide,by decide⟩⟩⟩ rfl (by decide)
theorem x29_in {V:World}{g:Nat}{A1:Option Addr}{d1:Nat}(hb:Blk V g 61 [.slice A1 2 d1,.int .i64 1])(h1:In V A1 2 d1 [iV 1,iV 2]):In V (some ⟨g,0,none⟩) 1 1 k29X:=
 in_built hb (Cells.one ⟨_,_,_,rfl,h1,⟨by decide,by decide⟩⟩) rfl (by decide)
theorem c29b_in {V:World}{g:Nat}(hb:Blk V g 82 [.string ⟨#[97]⟩,.int .i64 2,.bool false,.string ⟨#[98]⟩,.int .i64 2,.bool false]):In V (some ⟨g,0,none⟩) 2 2 k28Cols:=by
 have h1: ∀V:World,Rep.rd V (λk=>k<V.heap.size) [.string ⟨#[97]⟩,.int .i64 2,.bool false] (⟨⟨#[97]⟩,2,false⟩:Col):=λV=>
  ⟨rfl,⟨by show (⟨#[97]⟩:ByteArray).size<=9223372036854775807;decide,by show (-9223372036854775808:Int)<=2;decide,by show (2:Int)<=9223372036854775807;decide⟩⟩
 have h2: ∀V:World,Rep.rd V (λk=>k<V.heap.size) [.string ⟨#[98]⟩,.int .i64 2,.bool false] (⟨⟨#[98]⟩,2,false⟩:Col):=λV=>
  ⟨rfl,⟨by show (⟨#[98]⟩:ByteArray).size<=9223372036854775807;decide,by show (-9223372036854775808:Int)<=2;decide,by show (2:Int)<=9223372036854775807;decide⟩⟩
 exact in_built hb ⟨[_,_,_],[_,_,_],rfl,h1 _,Cells.one (h2 _)⟩ rfl (by decide)
theorem n29_in {V:World}{g:Nat}{s:ByteArray}(hs:s.size<=8)(hb:Blk V g 9 [.string s]):In V (some ⟨g,0,none⟩) 1 1 [s]:=
 in_built hb (Cells.one ⟨rfl,by show s.size<=9223372036854775807;omega⟩) rfl (by decide)
theorem known29_any (w:World)(hw:Words w):
  Calls Tryz.prog 12 #[] w λe w'=>e=.returned (.bool true)/\Below w.heap.size w w':=by
 have HBU:=hide λW A1 (hc:In W A1 2 2 k28Cols) A3 (hr:In W A3 2 2 k29R) A (hn:In W A 1 1 [kA]) (hw:Words W)=>buildI_all W k28C A 1 1 hn none 0 0 In.nil_ none 0 0 In.nil_ hw kNo A1 2 2 k28Cols hc none 0 0 A3 2 2 k29R hr kNo none 0 0 [] In.nil_ none 0 0 none 0 0 [] In.nil_ none 0 0 [] In.nil_ (by omega) (by omega) (by omega) (by omega)
 have HCO:=hide λW B7 m7 d7 (h7:In W B7 m7 d7 k29R) B8 m8 d8 (h8:In W B8 m8 d8 []) B9 m9 d9 (h9:In W B9 m9 d9 []) A1 (hc:In W A1 2 2 k28Cols) A3 (hr:In W A3 1 1 k29X) A (hn:In W A 1 1 [kA]) (hw:Words W)=>conc_any W k28C A 1 1 hn none 0 0 In.nil_ none 0 0 In.nil_ hw ⟨k29R,[],[]⟩ B7 m7 d7 h7 B8 m8 d8 h8 B9 m9 d9 h9 kNo A1 2 2 k28Cols hc none 0 0 A3 1 1 k29X hr kNo none 0 0 [] In.nil_ none 0 0 none 0 0 [] In.nil_ none 0 0 [] In.nil_ (by omega) (by omega) (by omega) (by omega)
 have HAP:=hide λW B7 m7 d7 (h7:In W B7 m7 d7 k29R) B8 m8 d8 (h8:In W B8 m8 d8 []) B9 m9 d9 (h9:In W B9 m9 d9 []) A1 (hc:In W A1 2 2 k28Cols) A3 (hr:In W A3 1 1 k29X) A (hn:In W A 1 1 [kA]) (hw:Words W)=>applyI_any W k28C A 1 1 hn none 0 0 In.nil_ none 0 0 In.nil_ hw ⟨k29R,[],[]⟩ B7 m7 d7 h7 B8 m8 d8 h8 B9 m9 d9 h9 kNo A1 2 2 k28Cols hc none 0 0 A3 1 1 k29X hr kNo none 0 0 [] In.nil_ none 0 0 none 0 0 [] In.nil_ none 0 0 [] In.nil_ (by omega) (by omega) (by omega) (by omega)
 obtain ⟨⟨CE,CL⟩,hC⟩: ∃q,concS k28C ⟨k29R,[],[]⟩ k28Cols [] k29X [] []=q:=⟨_,rfl⟩
 obtain ⟨⟨AE,AI,AL⟩,hA⟩: ∃q,applyS k28C ⟨k29R,[],[]⟩ k28Cols [] k29X [] []=q:=⟨_,rfl⟩
 have hc2:=k29_conc
 have ha2:=k29_apply
 rw[hC]at hc2
 rw[hA]at ha2
 obtain ⟨rfl,hc3⟩:=hc2
 obtain ⟨rfl,ha3,ha4,ha5,ha6⟩:=ha2
 simp only[chkCells,k29_build,hC,hA]at HBU HCO HAP
 simp only[k28C,kNo]at HBU HCO HAP
 have HC3:=hide hc3
 have HA3:=hide ha3
 have HA4:=hide ha4
 have HA5:=hide ha5
 have HA6:=hide ha6
 clear hC hA hc3 ha3 ha4 ha5 ha6
 have HW:=hide hw
 clear hw
 go_enter Tryz.func12,Tryz.ntmps12
 go_wp2_with fail
 obtain ⟨W909,hW909⟩: ∃W,W=w.alloc (.cells #[.string ⟨#[97]⟩,.int .i64 2,.bool false,.string ⟨#[98]⟩,.int .i64 2,.bool false] 82):=⟨_,rfl⟩
 obtain ⟨g1,hg1⟩: ∃q,q=w.heap.size:=⟨_,rfl⟩
 have KL:Hid (Blk W909 g1 82 [.string ⟨#[97]⟩,.int .i64 2,.bool false,.string ⟨#[98]⟩,.int .i64 2,.bool false]):=hide (by rw[hW909,hg1];exact Blk.made _ _ _)
 have SZg1:Hid (W909.heap.size=g1+1):=hide (by rw[hW909,hg1];exact World.size_alloc _ _)
 have LBg1:Hid (Below w.heap.size w W909):=hide (by rw[hW909];exact below_alloc)
 have HGg1:Hid (w.heap.size<=g1):=hide (by rw[hg1];exact Nat.le_refl _)
 rw[<-hW909,<-hg1]
 have HEg1:=hide hg1
 clear hW909 hg1
 have LHBg1:=hide LBg1.out
 have hs1:=LHBg1.out.size
 refine (row29_any _ 1 1 (by omega) (by omega) (by omega) (by omega)).mono ?_
 rintro e w10 ⟨⟨A1,c1,rfl,h1⟩,hb10⟩
 have KL:=hide (KL.out.below hb10)
 have LHC10:=hide (below_trans LHBg1.out hb10)
 clear hb10
 replace h1:=h1.rebase hs1
 have H1:=hide h1
 clear h1
 have hs2:=LHC10.out.size
 go_wp2_with fail
 refine (row29_any _ 2 1 (by omega) (by omega) (by omega) (by omega)).mono ?_
 rintro e w11 ⟨⟨A2,c2,rfl,h2⟩,hb11⟩
 have KL:=hide (KL.out.below hb11)
 have H1:=hide (H1.out.below hb11)
 have LHC11:=hide (below_trans LHC10.out hb11)
 clear hb11
 replace h2:=h2.rebase hs2
 have H2:=hide h2
 clear h2
 go_upto_region 3 with (fail)
 obtain ⟨W912,hW912⟩: ∃W,W=w11.alloc (.cells #[.slice A1 2 c1,.int .i64 1,.slice A2 2 c2,.int .i64 1] 61):=⟨_,rfl⟩
 obtain ⟨g2,hg2⟩: ∃q,q=w11.heap.size:=⟨_,rfl⟩
 have KE:Hid (Blk W912 g2 61 [.slice A1 2 c1,.int .i64 1,.slice A2 2 c2,.int .i64 1]):=hide (by rw[hW912,hg2];exact Blk.made _ _ _)
 have SZg2:Hid (W912.heap.size=g2+1):=hide (by rw[hW912,hg2];exact World.size_alloc _ _)
 have LBg2:Hid (Below w11.heap.size w11 W912):=hide (by rw[hW912];exact below_alloc)
 have HGg2:Hid (w.heap.size<=g2):=hide (by rw[hg2];exact LHC11.out.size)
 have NEg1_g2:Hid (¬g1=g2):=hide (by have h:=KL.out.lt;omega)
 rw[<-hW912,<-hg2]
 have HEg2:=hide hg2
 clear hW912 hg2
 have KL:=hide (KL.out.below LBg2.out)
 have H1:=hide (H1.out.below LBg2.out)
 have H2:=hide (H2.out.below LBg2.out)
 have LHBg2:=hide (below_trans LHC11.out LBg2.out)
 obtain ⟨W913,hW913⟩: ∃W,W=W912.alloc (.cells #[.string ⟨#[]⟩,.slice (some ⟨g1,0,none⟩) 2 2,.slice none 0 0,.slice (some ⟨g2,0,none⟩) 2 2] 32):=⟨_,rfl⟩
 obtain ⟨g3,hg3⟩: ∃q,q=W912.heap.size:=⟨_,rfl⟩
 have KR:Hid (Blk W913 g3 32 [.string ⟨#[]⟩,.slice (some ⟨g1,0,none⟩) 2 2,.slice none 0 0,.slice (some ⟨g2,0,none⟩) 2 2]):=hide (by rw[hW913,hg3];exact Blk.made _ _ _)
 have SZg3:Hid (W913.heap.size=g3+1):=hide (by rw[hW913,hg3];exact World.size_alloc _ _)
 have LBg3:Hid (Below W912.heap.size W912 W913):=hide (by rw[hW913];exact below_alloc)
 have HGg3:Hid (w.heap.size<=g3):=hide (by rw[hg3];exact LHBg2.out.size)
 have NEg1_g3:Hid (¬g1=g3):=hide (by have h:=KL.out.lt;omega)
 have NEg2_g3:Hid (¬g2=g3):=hide (by have h:=KE.out.lt;omega)
 have hqg3:g3=g2+1:=by rw[hg3];exact SZg2.out
 rw[<-hW913,<-hqg3]
 clear hqg3
 have HEg3:=hide hg3
 clear hW913 hg3
 have KL:=hide (KL.out.below LBg3.out)
 have KE:=hide (KE.out.below LBg3.out)
 have H1:=hide (H1.out.below LBg3.out)
 have H2:=hide (H2.out.below LBg3.out)
 have LHBg3:=hide (below_trans LHBg2.out LBg3.out)
 obtain ⟨W914,hW914⟩: ∃W,W=W913.alloc (.cells #[.string ⟨#[97]⟩] 9):=⟨_,rfl⟩
 obtain ⟨g4,hg4⟩: ∃q,q=W913.heap.size:=⟨_,rfl⟩
 have KN:Hid (Blk W914 g4 9 [.string ⟨#[97]⟩]):=hide (by rw[hW914,hg4];exact Blk.made _ _ _)
 have SZg4:Hid (W914.heap.size=g4+1):=hide (by rw[hW914,hg4];exact World.size_alloc _ _)
 have LBg4:Hid (Below W913.heap.size W913 W914):=hide (by rw[hW914];exact below_alloc)
 have HGg4:Hid (w.heap.size<=g4):=hide (by rw[hg4];exact LHBg3.out.size)
 have NEg1_g4:Hid (¬g1=g4):=hide (by have h:=KL.out.lt;omega)
 have NEg2_g4:Hid (¬g2=g4):=hide (by have h:=KE.out.lt;omega)
 have NEg3_g4:Hid (¬g3=g4):=hide (by have h:=KR.out.lt;omega)
 have hqg4:g4=g3+1:=by rw[hg4];exact SZg3.out
 rw[<-hW914,<-hqg4]
 clear hqg4
 have HEg4:=hide hg4
 clear hW914 hg4
 have KL:=hide (KL.out.below LBg4.out)
 have KE:=hide (KE.out.below LBg4.out)
 have KR:=hide (KR.out.below LBg4.out)
 have H1:=hide (H1.out.below LBg4.out)
 have H2:=hide (H2.out.below LBg4.out)
 have LHBg4:=hide (below_trans LHBg3.out LBg4.out)
 obtain ⟨W915,hW915⟩: ∃W,W=W914.alloc (.cells #[.string ⟨#[99]⟩,.string ⟨#[]⟩,.int .i64 0,.slice (some ⟨g4,0,none⟩) 1 1,.string ⟨#[]⟩,.slice none 0 0,.int .i64 0,.int .i64 0,.slice none 0 0,.int .i64 0,.int .i64 0,.int .i64 0,.int .i64 0,.int .i64 1] 27):=⟨_,rfl⟩
 obtain ⟨g5,hg5⟩: ∃q,q=W914.heap.size:=⟨_,rfl⟩
 have KC:Hid (Blk W915 g5 27 [.string ⟨#[99]⟩,.string ⟨#[]⟩,.int .i64 0,.slice (some ⟨g4,0,none⟩) 1 1,.string ⟨#[]⟩,.slice none 0 0,.int .i64 0,.int .i64 0,.slice none 0 0,.int .i64 0,.int .i64 0,.int .i64 0,.int .i64 0,.int .i64 1]):=hide (by rw[hW915,hg5];exact Blk.made _ _ _)
 have SZg5:Hid (W915.heap.size=g5+1):=hide (by rw[hW915,hg5];exact World.size_alloc _ _)
 have LBg5:Hid (Below W914.heap.size W914 W915):=hide (by rw[hW915];exact below_alloc)
 have HGg5:Hid (w.heap.size<=g5):=hide (by rw[hg5];exact LHBg4.out.size)
 have NEg1_g5:Hid (¬g1=g5):=hide (by have h:=KL.out.lt;omega)
 have NEg2_g5:Hid (¬g2=g5):=hide (by have h:=KE.out.lt;omega)
 have NEg3_g5:Hid (¬g3=g5):=hide (by have h:=KR.out.lt;omega)
 have NEg4_g5:Hid (¬g4=g5):=hide (by have h:=KN.out.lt;omega)
 have hqg5:g5=g4+1:=by rw[hg5];exact SZg4.out
 rw[<-hW915,<-hqg5]
 clear hqg5
 have HEg5:=hide hg5
 clear hW915 hg5
 have KL:=hide (KL.out.below LBg5.out)
 have KE:=hide (KE.out.below LBg5.out)
 have KR:=hide (KR.out.below LBg5.out)
 have KN:=hide (KN.out.below LBg5.out)
 have H1:=hide (H1.out.below LBg5.out)
 have H2:=hide (H2.out.below LBg5.out)
 have LHBg5:=hide (below_trans LHBg4.out LBg5.out)
 obtain ⟨LTKC,g0,g1,g2,g3,g4,g5,g6,g7,g8,g9,g10,g11,g12,g13⟩:=KC.out.ats14
 obtain ⟨LTKR,r0,r1,r2,r3⟩:=KR.out.ats4
 have hs3:=LHBg5.out.size
 go_wp2_with fail
 refine (HBU.out _ _ (c29b_in KL.out) _ (e29_in KE.out (ol_in H1.out rfl) (ol_in H2.out rfl)) _ (n29_in (by decide) KN.out) (HW.out.below LHBg5.out)).mono ?_
 rintro e w16 ⟨⟨v7,v8,v9,rfl,h7,h8,h9⟩,hb16⟩
 clear LTKC g0 g1 g2 g3 g4 g5 g6 g7 g8 g9 g10 g11 g12 g13 LTKR r0 r1 r2 r3
 have KL:=hide (KL.out.below hb16)
 have KE:=hide (KE.out.below hb16)
 have KR:=hide (KR.out.below hb16)
 have KN:=hide (KN.out.below hb16)
 have KC:=hide (KC.out.below hb16)
 have H1:=hide (H1.out.below hb16)
 have H2:=hide (H2.out.below hb16)
 have LHC16:=hide (below_trans LHBg5.out hb16)
 clear hb16
 replace h7:=h7.rebase hs3
 replace h8:=h8.rebase hs3
 replace h9:=h9.rebase hs3
 obtain ⟨A7,c7,rfl⟩:=h7.form
 obtain ⟨A8,c8,rfl⟩:=h8.form
 obtain ⟨A9,c9,rfl⟩:=h9.form
 rw[show k29R.length=2 from rfl]at h7⊢
 have H7:=hide h7
 clear h7
 have H8:=hide h8
 clear h8
 have H9:=hide h9
 clear h9
 go_upto_region 4 with (fail)
 obtain ⟨W917,hW917⟩: ∃W,W=w16.alloc (.cells #[.slice A7 2 c7,.slice A8 0 c8,.slice A9 0 c9] 36):=⟨_,rfl⟩
 obtain ⟨g6,hg6⟩: ∃q,q=w16.heap.size:=⟨_,rfl⟩
 have KI:Hid (Blk W917 g6 36 [.slice A7 2 c7,.slice A8 0 c8,.slice A9 0 c9]):=hide (by rw[hW917,hg6];exact Blk.made _ _ _)
 have SZg6:Hid (W917.heap.size=g6+1):=hide (by rw[hW917,hg6];exact World.size_alloc _ _)
 have LBg6:Hid (Below w16.heap.size w16 W917):=hide (by rw[hW917];exact below_alloc)
 have HGg6:Hid (w.heap.size<=g6):=hide (by rw[hg6];exact LHC16.out.size)
 have NEg1_g6:Hid (¬g1=g6):=hide (by have h:=KL.out.lt;omega)
 have NEg2_g6:Hid (¬g2=g6):=hide (by have h:=KE.out.lt;omega)
 have NEg3_g6:Hid (¬g3=g6):=hide (by have h:=KR.out.lt;omega)
 have NEg4_g6:Hid (¬g4=g6):=hide (by have h:=KN.out.lt;omega)
 have NEg5_g6:Hid (¬g5=g6):=hide (by have h:=KC.out.lt;omega)
 rw[<-hW917,<-hg6]
 have HEg6:=hide hg6
 clear hW917 hg6
 have KL:=hide (KL.out.below LBg6.out)
 have KE:=hide (KE.out.below LBg6.out)
 have KR:=hide (KR.out.below LBg6.out)
 have KN:=hide (KN.out.below LBg6.out)
 have KC:=hide (KC.out.below LBg6.out)
 have H1:=hide (H1.out.below LBg6.out)
 have H2:=hide (H2.out.below LBg6.out)
 have H7:=hide (H7.out.below LBg6.out)
 have H8:=hide (H8.out.below LBg6.out)
 have H9:=hide (H9.out.below LBg6.out)
 have LHBg6:=hide (below_trans LHC16.out LBg6.out)
 have hs4:=LHBg6.out.size
 go_wp2_with fail
 refine (row29_any _ 1 2 (by omega) (by omega) (by omega) (by omega)).mono ?_
 rintro e w18 ⟨⟨A10,c10,rfl,h10⟩,hb18⟩
 have KL:=hide (KL.out.below hb18)
 have KE:=hide (KE.out.below hb18)
 have KR:=hide (KR.out.below hb18)
 have KN:=hide (KN.out.below hb18)
 have KC:=hide (KC.out.below hb18)
 have KI:=hide (KI.out.below hb18)
 have H1:=hide (H1.out.below hb18)
 have H2:=hide (H2.out.below hb18)
 have H7:=hide (H7.out.below hb18)
 have H8:=hide (H8.out.below hb18)
 have H9:=hide (H9.out.below hb18)
 have LHC18:=hide (below_trans LHBg6.out hb18)
 clear hb18
 replace h10:=h10.rebase hs4
 have H10:=hide h10
 clear h10
 obtain ⟨LTKR,r0,r1,r2,r3⟩:=KR.out.ats4
 have fr0:=KR.out.fz 0
 have fr1:=KR.out.fz 1
 have fr2:=KR.out.fz 2
 have fr3:=KR.out.fz 3
 go_upto_region 5 with (fail)
 rw[<-World.setCell_alloc_past _ _ _ _ KR.out.lt]
 obtain ⟨W919,hW919⟩: ∃W,W=w18.alloc (.cells #[.slice A10 2 c10,.int .i64 1] 61):=⟨_,rfl⟩
 obtain ⟨g7,hg7⟩: ∃q,q=w18.heap.size:=⟨_,rfl⟩
 have KX:Hid (Blk W919 g7 61 [.slice A10 2 c10,.int .i64 1]):=hide (by rw[hW919,hg7];exact Blk.made _ _ _)
 have SZg7:Hid (W919.heap.size=g7+1):=hide (by rw[hW919,hg7];exact World.size_alloc _ _)
 have LBg7:Hid (Below w18.heap.size w18 W919):=hide (by rw[hW919];exact below_alloc)
 have HGg7:Hid (w.heap.size<=g7):=hide (by rw[hg7];exact LHC18.out.size)
 have NEg1_g7:Hid (¬g1=g7):=hide (by have h:=KL.out.lt;omega)
 have NEg2_g7:Hid (¬g2=g7):=hide (by have h:=KE.out.lt;omega)
 have NEg3_g7:Hid (¬g3=g7):=hide (by have h:=KR.out.lt;omega)
 have NEg4_g7:Hid (¬g4=g7):=hide (by have h:=KN.out.lt;omega)
 have NEg5_g7:Hid (¬g5=g7):=hide (by have h:=KC.out.lt;omega)
 have NEg6_g7:Hid (¬g6=g7):=hide (by have h:=KI.out.lt;omega)
 rw[<-hW919,<-hg7]
 have HEg7:=hide hg7
 clear hW919 hg7
 have KL:=hide (KL.out.below LBg7.out)
 have KE:=hide (KE.out.below LBg7.out)
 have KR:=hide (KR.out.below LBg7.out)
 have KN:=hide (KN.out.below LBg7.out)
 have KC:=hide (KC.out.below LBg7.out)
 have KI:=hide (KI.out.below LBg7.out)
 have H1:=hide (H1.out.below LBg7.out)
 have H2:=hide (H2.out.below LBg7.out)
 have H7:=hide (H7.out.below LBg7.out)
 have H8:=hide (H8.out.below LBg7.out)
 have H9:=hide (H9.out.below LBg7.out)
 have H10:=hide (H10.out.below LBg7.out)
 have LHBg7:=hide (below_trans LHC18.out LBg7.out)
 obtain ⟨W920,hW920⟩: ∃W,W=(W919.setCell ⟨g3,3,none⟩ (.slice (some ⟨g7,0,none⟩) 1 1)):=⟨_,rfl⟩
 clear LTKR r0 r1 r2 r3 fr0 fr1 fr2 fr3
 have H1:=hide (H1.out.off KR.out.ty (.inr λ_ h=>h) (by decide) (by decide) 3 (.slice (some ⟨g7,0,none⟩) 1 1))
 rw[<-hW920]at H1
 have H2:=hide (H2.out.off KR.out.ty (.inr λ_ h=>h) (by decide) (by decide) 3 (.slice (some ⟨g7,0,none⟩) 1 1))
 rw[<-hW920]at H2
 have H7:=hide (H7.out.off KR.out.ty (.inr λ_ h=>h) (by decide) (by decide) 3 (.slice (some ⟨g7,0,none⟩) 1 1))
 rw[<-hW920]at H7
 have H8:=hide (H8.out.off KR.out.ty (.inr λ_ h=>h) (by decide) (by decide) 3 (.slice (some ⟨g7,0,none⟩) 1 1))
 rw[<-hW920]at H8
 have H9:=hide (H9.out.off KR.out.ty (.inr λ_ h=>h) (by decide) (by decide) 3 (.slice (some ⟨g7,0,none⟩) 1 1))
 rw[<-hW920]at H9
 have H10:=hide (H10.out.off KR.out.ty (.inr λ_ h=>h) (by decide) (by decide) 3 (.slice (some ⟨g7,0,none⟩) 1 1))
 rw[<-hW920]at H10
 have KL:=hide (KL.out.far NEg1_g3.out 3 (.slice (some ⟨g7,0,none⟩) 1 1))
 rw[<-hW920]at KL
 have KE:=hide (KE.out.far NEg2_g3.out 3 (.slice (some ⟨g7,0,none⟩) 1 1))
 rw[<-hW920]at KE
 have KN:=hide (KN.out.far (λh=>NEg3_g4.out h.symm) 3 (.slice (some ⟨g7,0,none⟩) 1 1))
 rw[<-hW920]at KN
 have KC:=hide (KC.out.far (λh=>NEg3_g5.out h.symm) 3 (.slice (some ⟨g7,0,none⟩) 1 1))
 rw[<-hW920]at KC
 have KI:=hide (KI.out.far (λh=>NEg3_g6.out h.symm) 3 (.slice (some ⟨g7,0,none⟩) 1 1))
 rw[<-hW920]at KI
 have KX:=hide (KX.out.far (λh=>NEg3_g7.out h.symm) 3 (.slice (some ⟨g7,0,none⟩) 1 1))
 rw[<-hW920]at KX
 have KR:=hide (KR.out.set 3 (.slice (some ⟨g7,0,none⟩) 1 1))
 rw[<-hW920]at KR
 simp only[List.set_cons_zero,List.set_cons_succ]at KR
 have LHS20:=hide (below_set LHBg7.out HGg3.out 3 (.slice (some ⟨g7,0,none⟩) 1 1))
 rw[<-hW920]at LHS20
 rw[<-hW920]
 clear hW920
 obtain ⟨LTKC,g0,g1,g2,g3,g4,g5,g6,g7,g8,g9,g10,g11,g12,g13⟩:=KC.out.ats14
 obtain ⟨LTKR,r0,r1,r2,r3⟩:=KR.out.ats4
 obtain ⟨LTKI,i0,i1,i2⟩:=KI.out.ats3
 go_wp2_with fail
 refine (HCO.out _ _ 2 _ (ol_in H7.out rfl) _ 0 _ (ol_in H8.out rfl) _ 0 _ (ol_in H9.out rfl) _ (c29b_in KL.out) _ (x29_in KX.out (ol_in H10.out rfl)) _ (n29_in (by decide) KN.out) (HW.out.below LHS20.out)).mono ?_
 rintro e w21 ⟨⟨B1,m1,d1,rfl,hcl⟩,hb21⟩
 clear LTKC g0 g1 g2 g3 g4 g5 g6 g7 g8 g9 g10 g11 g12 g13 LTKR r0 r1 r2 r3 LTKI i0 i1 i2
 have KL:=hide (KL.out.below hb21)
 have KE:=hide (KE.out.below hb21)
 have KR:=hide (KR.out.below hb21)
 have KN:=hide (KN.out.below hb21)
 have KC:=hide (KC.out.below hb21)
 have KI:=hide (KI.out.below hb21)
 have KX:=hide (KX.out.below hb21)
 have H7:=hide (H7.out.below hb21)
 have H8:=hide (H8.out.below hb21)
 have H9:=hide (H9.out.below hb21)
 have H10:=hide (H10.out.below hb21)
 have LHC21:=hide (below_trans LHS20.out hb21)
 clear hb21
 obtain rfl:m1=2:=by rw[<-hcl.len];exact HC3.out
 clear hcl
 go_upto_region 6 with (fail)
 obtain ⟨LTKC,g0,g1,g2,g3,g4,g5,g6,g7,g8,g9,g10,g11,g12,g13⟩:=KC.out.ats14
 obtain ⟨LTKR,r0,r1,r2,r3⟩:=KR.out.ats4
 obtain ⟨LTKI,i0,i1,i2⟩:=KI.out.ats3
 have hs5:=LHC21.out.size
 go_wp2_with fail
 refine (HAP.out _ _ 2 _ (ol_in H7.out rfl) _ 0 _ (ol_in H8.out rfl) _ 0 _ (ol_in H9.out rfl) _ (c29b_in KL.out) _ (x29_in KX.out (ol_in H10.out rfl)) _ (n29_in (by decide) KN.out) (HW.out.below LHC21.out)).mono ?_
 rintro e w22 ⟨⟨v1,v2,v3,v0,rfl,k7,k8,k9,k0⟩,hb22⟩
 clear LTKC g0 g1 g2 g3 g4 g5 g6 g7 g8 g9 g10 g11 g12 g13 LTKR r0 r1 r2 r3 LTKI i0 i1 i2
 have KL:=hide (KL.out.below hb22)
 have KE:=hide (KE.out.below hb22)
 have KR:=hide (KR.out.below hb22)
 have KN:=hide (KN.out.below hb22)
 have KC:=hide (KC.out.below hb22)
 have KI:=hide (KI.out.below hb22)
 have KX:=hide (KX.out.below hb22)
 have LHC22:=hide (below_trans LHC21.out hb22)
 clear hb22
 obtain ⟨B7,e7,rfl⟩:=k7.form
 obtain ⟨B8,e8,rfl⟩:=k8.form
 obtain ⟨B9,e9,rfl⟩:=k9.form
 obtain ⟨B0,e0,rfl⟩:=k0.form
 have hi0:=ol_in k0 rfl
 rw[HA5.out]at hi0
 have H0:=hide hi0
 obtain ⟨m8,hm8⟩: ∃m,AI.other.length=m:=⟨_,rfl⟩
 rw[HA3.out,HA4.out,HA5.out,hm8]
 clear k7 k8 k9 k0 hm8 hi0
 go_upto_region 7 with (fail)
 obtain ⟨W923,hW923⟩: ∃W,W=w22.alloc (.cells #[.slice B7 3 e7,.slice B8 m8 e8,.slice B9 2 e9] 36):=⟨_,rfl⟩
 obtain ⟨g8,hg8⟩: ∃q,q=w22.heap.size:=⟨_,rfl⟩
 have KJ:Hid (Blk W923 g8 36 [.slice B7 3 e7,.slice B8 m8 e8,.slice B9 2 e9]):=hide (by rw[hW923,hg8];exact Blk.made _ _ _)
 have SZg8:Hid (W923.heap.size=g8+1):=hide (by rw[hW923,hg8];exact World.size_alloc _ _)
 have LBg8:Hid (Below w22.heap.size w22 W923):=hide (by rw[hW923];exact below_alloc)
 have HGg8:Hid (w.heap.size<=g8):=hide (by rw[hg8];exact LHC22.out.size)
 have NEg1_g8:Hid (¬g1=g8):=hide (by have h:=KL.out.lt;omega)
 have NEg2_g8:Hid (¬g2=g8):=hide (by have h:=KE.out.lt;omega)
 have NEg3_g8:Hid (¬g3=g8):=hide (by have h:=KR.out.lt;omega)
 have NEg4_g8:Hid (¬g4=g8):=hide (by have h:=KN.out.lt;omega)
 have NEg5_g8:Hid (¬g5=g8):=hide (by have h:=KC.out.lt;omega)
 have NEg6_g8:Hid (¬g6=g8):=hide (by have h:=KI.out.lt;omega)
 have NEg7_g8:Hid (¬g7=g8):=hide (by have h:=KX.out.lt;omega)
 rw[<-hW923,<-hg8]
 have HEg8:=hide hg8
 clear hW923 hg8
 have KI:=hide (KI.out.below LBg8.out)
 have LHBg8:=hide (below_trans LHC22.out LBg8.out)
 obtain ⟨b,off,y,rfl,hBb,HY,Ay,ny,cy,q0,q1, -, -⟩:=H0.out.ent (k:=0) (by omega)
 have hy1:y.count=1:=by
  have h:=HY.out
  have h2:=HA6.out
  rw[List.drop_zero]at h
  rw[h]at h2
  exact h2
 rw[hy1]at q1
 simp only[Nat.zero_mul,Nat.add_zero]at q1
 have p1:=bat LBg8.out hBb q1
 have hl0:(0:Int)<(2:Nat):=by omega
 obtain ⟨LTKI,i0,i1,i2⟩:=KI.out.ats3
 obtain ⟨LTKJ,j0,j1,j2⟩:=KJ.out.ats3
 go_wp2
 all_goals (try (exfalso;go_light;simp_all;done))
 go_ret
 exact ⟨rfl,LHBg8.out⟩
end Go.Proofs.YtggejcekmehocaaGreatDoor
