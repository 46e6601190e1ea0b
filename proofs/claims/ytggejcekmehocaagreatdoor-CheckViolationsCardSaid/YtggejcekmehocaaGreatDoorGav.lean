/-
  check.text, check.picked; warehouseref28.pick. Plain law: what check.Violations answers; the texts of picked values tell them apart. No program is in sight. check.counted: how many rows have which values. check.missing; warehouseref28.hasNull: whether a row has a null.
-/
import Derived.Test.YtggejcekmehocaaGreatDoorGao
import Derived.Test.YtggejcekmehocaaGreatDoorGap
import Derived.Test.YtggejcekmehocaaGreatDoorGas
import Derived.Test.YtggejcekmehocaaGreatDoorGaa
namespace Go.Proofs.YtggejcekmehocaaGreatDoor
set_option maxHeartbeats 4000000
set_option maxRecDepth 100000
open Go.RowKit
set_option linter.unusedSimpArgs false
set_option linter.unusedVariables false
def jP (row:List Val):ByteArray:=⟨(encS row).2.toArray⟩
theorem Li {w:World}{B n c:Nat}{A:Option Addr}{bs:List UInt8}(h:OB B w (.slice A n c) bs)(hl:bs.length=n):
  (convert 127 9 (.slice A n c)).run Tryz.prog w=.ok (.string ⟨bs.toArray⟩) w:=by
 obtain ⟨cs,h1,h2⟩:=h.own
 obtain rfl:=yF h2
 rcases h1.2 with ⟨e,hz⟩|⟨g,cap,cur,e,hb,hh,r1,r2,r3,r4⟩
 ·injection e with e1 e2 e3
  subst e1 e2 e3
  obtain rfl:bs=[]:=List.eq_nil_of_length_eq_zero hl
  rw[run_convert_bytes_string w 127 9 5 none 0 0 Tryz.underlying127 Tryz.underlying5 Tryz.underlying9]
  rfl
 ·injection e with e1 e2 e3
  subst e1 e2 e3
  refine run_convert_bytes_back w 127 9 5 ⟨g,0,none⟩ _ bs Tryz.underlying127 Tryz.underlying5 Tryz.underlying9 λj hj=>?_
  rw[pq,Nat.zero_add,cell_of_row w g _ cur _ (0,0) hh]
  have h3:(cur.toList.take (bs.length*1))[j]?=(bs.map λb=>Value.int .u8 b.toNat)[j]?:=by rw[<-r4];rfl
  rw[List.getElem?_take_of_lt (by omega)]at h3
  rw[<-Array.getElem?_toList,h3]
  simp[hj]
theorem zP (w:World)(A:Option Addr)(n c:Nat)(row:List Val)(hx:In w A n c row):
  Calls Tryz.prog 96 #[.slice A n c] w λe w'=>e=.returned (.string (jP row))/\Below w.heap.size w w':=by
 have HT:=hide (show jP row=⟨(encS row).2.toArray⟩ from rfl)
 generalize jP row=R at*
 go_enter Tryz.func96,Tryz.ntmps96
 go_wp2_with fail
 refine (F5 _ A n c row (by exact hx)).mono ?_
 rintro e w1 ⟨⟨v,rfl,ho⟩,hb⟩
 obtain ⟨A1,c1,rfl⟩:=ho.form
 have yl:=Li ho rfl
 rw[<-HT.out]at yl
 have HB:=hide hb
 clear ho hb HT
 go_wp2
 go_ret
 exact ⟨rfl,HB.out⟩
def aN (cols:List Col)(names:List ByteArray)(row:List Val):List Val:=iC row (bD cols names).2
theorem jM (cols:List Col)(names:List ByteArray):(bD cols names).2.length<=names.length:=by
 rw[bD]
 split
 ·exact Nat.zero_le _
 ·simp
theorem jD (row:List Val)(ks:List Int):(iC row ks).length=ks.length:=by rw[iC,List.length_map]
theorem pX (w:World)(A:Option Addr)(n c:Nat)(cols:List Col)(hx:In w A n c cols)(A2:Option Addr)(n2 c2:Nat)(names:List ByteArray)(hy:In w A2 n2 c2 names)(A3:Option Addr)(n3 c3:Nat)(row:List Val)(hz:In w A3 n3 c3 row)(hn:n<=1048576)(hn2:n2<=4096):
  Calls Tryz.prog 89 #[.slice A n c,.slice A2 n2 c2,.slice A3 n3 c3] w
   λe w'=>(∃A' m c',e=.returned (.slice A' m c')/\OL 74 w.heap.size (λ_=>False) [] w' (.slice A' m c') (aN cols names row)/\(aN cols names row).length=m/\m<=n2)/\Below w.heap.size w w':=by
 have HL:=hide (jM cols names)
 have HP:=hide (show aN cols names row=iC row (bD cols names).2 from rfl)
 have Wt:=hide hy.len
 have Rj:=λW hx hy=>ry W A n c cols hx A2 n2 c2 names hy (by omega) hn
 obtain ⟨ke,hke⟩: ∃k,bD cols names=k:=⟨_,rfl⟩
 rw[hke]at HL HP Rj
 obtain ⟨R,hR⟩: ∃R,aN cols names row=R:=⟨_,rfl⟩
 rw[hR]at HP
 rw[hR]
 clear hke hR
 obtain ⟨ke,ks⟩:=ke
 have Nh:=hide Rj
 clear Rj
 go_enter Tryz.func89,Tryz.ntmps89
 have HX:=hide hx
 clear hx
 have HY:=hide hy
 clear hy
 have HZ:=hide hz
 clear hz
 go_wp2_with fail
 refine (Nh.out _ (by exact HX.out) (by exact HY.out)).mono ?_
 rintro e w1 ⟨⟨v,rfl,ho⟩,hb1⟩
 obtain ⟨A4,c4,rfl⟩:=ho.form
 have hkl:ks.length<=n2:=by rw[<-Wt.out];exact HL.out
 obtain ⟨m,hm⟩: ∃m,ks.length=m:=⟨_,rfl⟩
 have hI:=ho.inn
 obtain ⟨A9,c9,e9,h9⟩:=hI
 injection e9 with e1 e2 e3
 subst e1 e3
 rw[hm]at h9 hkl⊢
 have HM:=hide hm
 clear ho e2 hm
 have HZ:=hide (HZ.out.below hb1)
 have qA:=hide hb1
 clear hb1
 have HK:=hide h9
 clear h9
 go_wp2_with fail
 refine (MP _ A3 n3 c3 row (by exact HZ.out) A4 m c4 ks (by exact HK.out) (by omega)).mono ?_
 rintro e w2 ⟨⟨A5,c5,rfl,ho2⟩,hb2⟩
 have kJ:=hide (ho2.rebase qA.out.size)
 have fK:=hide (aa qA.out hb2)
 clear hb2
 clear ho2
 go_wp2
 go_ret
 exact ⟨⟨A5,m,c5,rfl,by rw[HP.out];exact kJ.out,by rw[HP.out,jD,HM.out],hkl⟩,fK.out⟩
theorem iT (w:World)(A:Option Addr)(n c:Nat)(cols:List Col)(hx:In w A n c cols)(A2:Option Addr)(n2 c2:Nat)(names:List ByteArray)(hy:In w A2 n2 c2 names)(A3:Option Addr)(n3 c3:Nat)(row:List Val)(hz:In w A3 n3 c3 row)(hn:n<=1048576)(hn2:n2<=4096):
  Calls Tryz.prog 82 #[.slice A n c,.slice A2 n2 c2,.slice A3 n3 c3] w
   λe w'=>(∃A' m c',e=.returned (.slice A' m c')/\OL 74 w.heap.size (λ_=>False) [] w' (.slice A' m c') (aN cols names row)/\(aN cols names row).length=m/\m<=n2)/\Below w.heap.size w w':=by
 have HL:=hide (jM cols names)
 have HP:=hide (show aN cols names row=iC row (bD cols names).2 from rfl)
 have Wt:=hide hy.len
 have Rj:=λW hx hy=>jo W A n c cols hx A2 n2 c2 names hy (by omega) hn
 obtain ⟨ke,hke⟩: ∃k,bD cols names=k:=⟨_,rfl⟩
 rw[hke]at HL HP Rj
 obtain ⟨R,hR⟩: ∃R,aN cols names row=R:=⟨_,rfl⟩
 rw[hR]at HP
 rw[hR]
 clear hke hR
 obtain ⟨ke,ks⟩:=ke
 have Nh:=hide Rj
 clear Rj
 go_enter Tryz.func82,Tryz.ntmps82
 have HX:=hide hx
 clear hx
 have HY:=hide hy
 clear hy
 have HZ:=hide hz
 clear hz
 go_wp2_with fail
 refine (Nh.out _ (by exact HX.out) (by exact HY.out)).mono ?_
 rintro e w1 ⟨⟨v,rfl,ho⟩,hb1⟩
 obtain ⟨A4,c4,rfl⟩:=ho.form
 have hkl:ks.length<=n2:=by rw[<-Wt.out];exact HL.out
 obtain ⟨m,hm⟩: ∃m,ks.length=m:=⟨_,rfl⟩
 have hI:=ho.inn
 obtain ⟨A9,c9,e9,h9⟩:=hI
 injection e9 with e1 e2 e3
 subst e1 e3
 rw[hm]at h9 hkl⊢
 have HM:=hide hm
 clear ho e2 hm
 have HZ:=hide (HZ.out.below hb1)
 have oO:=hide hb1
 clear hb1
 have HK:=hide h9
 clear h9
 go_wp2_with fail
 refine (MQ _ A3 n3 c3 row (by exact HZ.out) A4 m c4 ks (by exact HK.out) (by omega)).mono ?_
 rintro e w2 ⟨⟨A5,c5,rfl,ho2⟩,hb2⟩
 have kJ:=hide (ho2.rebase oO.out.size)
 have jH:=hide (aa oO.out hb2)
 clear hb2
 clear ho2
 go_wp2
 go_ret
 exact ⟨⟨A5,m,c5,rfl,by rw[HP.out];exact kJ.out,by rw[HP.out,jD,HM.out],hkl⟩,jH.out⟩
def aI (c:Chk)(rc oc:List Col)(rr orr:List Ent)(zs:List Zone):Int:=
 if bu c rc oc zs≠0 then bu c rc oc zs else if eH rc rr≠0 then eH rc rr else if iL c.kind=true then eH oc orr else 0
def kZ (row:List Val):Bool:=row.any λv=>v.kind==0
def bB (cond:List Node)(cols:List Col)(row:List Val)(zs:List Zone):Bool:=(iI cond cols row zs).1==0&&truth (iI cond cols row zs).2==1
def aH:List Ent->Int
 | []=>0
 |x :: l=>x.count+aH l
def jO (a b:List Val):Bool:=aC a b==0
def sQ (cols:List Col)(names:List ByteArray)(rows:List Ent)(v:List Val):List Ent:=rows.filter λx=>jO (aN cols names x.row) v
def GM (c:Chk)(v:Val):Bool:=v.kind != 0&&(decide (v.num<c.low) || decide (c.high<v.num))
def cO (c:Chk)(rc oc:List Col)(rr orr:List Ent)(zs:List Zone)(row:List Val):Bool:=
 if c.kind=0 then decide (1<aH (sQ rc c.cols rr (aN rc c.cols row)))
 else if c.kind=1 then kZ (aN rc c.cols row)
 else if c.kind=2 then GM c ((aN rc c.cols row).getD 0 zeroV)
 else if c.kind=3 then !kZ (aN rc c.cols row)&&(sQ oc c.ocols orr (aN rc c.cols row)).isEmpty
 else if c.kind=4 then !bB c.cond rc row zs
 else false
def bG (c:Chk)(rc oc:List Col)(rr orr:List Ent)(zs:List Zone):Int×List Ent:=
 if aI c rc oc rr orr zs≠0 then (aI c rc oc rr orr zs,[]) else (0,rr.filter λx=>cO c rc oc rr orr zs x.row)
theorem Ie {α:Type}{f:Nat->α->Int}{l:List α}{k:Nat}(h:aj f k l=0)(hf: ∀i j x,f i x=f j x): ∀x∈l,f 0 x=0:=λx hx=>by
 obtain ⟨j,hj⟩:=List.mem_iff_getElem?.1 hx
 rw[hf 0 (k+j) x]
 exact dQ h j x hj
theorem vT {cols:List Col}{row:List Val}(h:aS cols row=0){i:Nat}{v:Val}(hv:row[i]?=some v):valid v=true:=by
 have h1:=EX h hv
 rw[dF]at h1
 cases q:valid v
 ·rw[if_pos q]at h1;omega
 ·rfl
theorem kg {a b:List Val}:jO a b=true↔a=b:=by rw[jO,beq_iff_eq,dP]
theorem lK (l m:List Ent):aH (l++m)=aH l+aH m:=by
 induction l with
 |nil=>simp[aH]
 |cons x l ih=>rw[List.cons_append,aH,aH,ih];omega
theorem Dm {l:List Ent}{C:Int}(h: ∀x∈l,0<=x.count/\x.count<=C):0<=aH l/\aH l<=C*(l.length:Int):=by
 induction l with
 |nil=>simp[aH]
 |cons x l ih=>
  have h1:=h x (by simp)
  have h2:=ih λy hy=>h y (by simp[hy])
  rw[aH,List.length_cons,show C*((l.length+1:Nat):Int)=C*(l.length:Int)+C by rw[Int.natCast_succ,Int.mul_add,Int.mul_one]]
  omega
theorem M4 {l:List Ent}(h: ∀x∈l,0<x.count):(aH l==0)=l.isEmpty:=by
 cases l with
 |nil=>rfl
 |cons x l=>
  have h1:=h x (by simp)
  have h2:=(Dm (l:=l) (C:=x.count+aH l+1) λy hy=>⟨by have:=h y (by simp[hy]);omega,by
   have key: ∀(m:List Ent),(∀z∈m,0<z.count)->y∈m->y.count<=aH m:=λm=>by
    induction m with
    |nil=>intro _ h;cases h
    |cons z m ih=>
     intro hz hy
     have hp:0<=aH m:=by
      clear ih hy
      induction m with
      |nil=>simp[aH]
      |cons u m ih=>
       have:=hz u (by simp)
       have:=ih λq hq=>hz q (by
        rcases List.mem_cons.1 hq with rfl|hq
        ·simp
        ·simp[hq])
       rw[aH];omega
     rw[aH]
     have hz0:=hz z (by simp)
     rcases List.mem_cons.1 hy with rfl|hy
     ·omega
     ·have:=ih (λq hq=>hz q (by simp[hq])) hy
      omega
   have:=key l (λz hz=>h z (by simp[hz])) hy
   omega⟩).1
  rw[aH]
  simp
  omega
theorem zl {cols:List Col}{s:ByteArray}{i:Nat}(h:index cols s=(i:Int)): ∃c,cols[i]?=some c/\c.name.toList=s.toList:=by
 have key: ∀(l:List Col) (k:Nat),aU s k l= -1\/ ∃j:Nat,aU s k l=((k+j:Nat):Int)/\ ∃c,l[j]?=some c/\c.name.toList=s.toList:=λl=>by
  induction l with
  |nil=>intro k;exact .inl rfl
  |cons c l ih=>
   intro k
   rw[aU]
   by_cases hc:(c.name.toList==s.toList)=true
   ·rw[if_pos hc]
    exact .inr ⟨0,by simp,c,rfl,by simpa using hc⟩
   ·rw[if_neg hc]
    rcases ih (k+1) with h|⟨j,h,c',h1,h2⟩
    ·exact .inl h
    ·exact .inr ⟨j+1,by rw[h];congr 1;omega,c',by simpa using h1,h2⟩
 rcases key cols 0 with h1|⟨j,h1,c,h2,h3⟩
 ·rw[index,h1]at h;omega
 ·rw[index,h1]at h
  obtain rfl:j=i:=by omega
  exact ⟨c,h2,h3⟩
theorem fC {cols:List Col}{names:List ByteArray}(h:(bD cols names).1=0):
  (bD cols names).2=names.map (index cols)/\(∀s∈names,0<=index cols s/\index cols s<(cols.length:Int))/\names.length<=cols.length:=by
 have h0:iw cols names=0:=by
  rw[bD]at h
  by_cases h1:iw cols names=0
  ·exact h1
  ·rw[if_pos h1]at h;exact h
 have hall:=dQ (f:=uT cols names) (l:=names) (k:=0) h0
 have hat: ∀(j:Nat) (s:ByteArray),names[j]?=some s->0<=index cols s/\jm (names.take j) s=false:=λj s hs=>by
  have h1:=hall j s hs
  rw[Nat.zero_add,uT]at h1
  by_cases h2:index cols s<0
  ·rw[if_pos h2]at h1;omega
  ·rw[if_neg h2]at h1
   refine ⟨by omega,?_⟩
   cases h3:jm (names.take j) s
   ·rfl
   ·rw[h3]at h1;simp at h1
 have hb: ∀s∈names,0<=index cols s/\index cols s<(cols.length:Int):=λs hs=>by
  obtain ⟨j,hj⟩:=List.mem_iff_getElem?.1 hs
  exact ⟨(hat j s hj).1,(zi cols s).2⟩
 refine ⟨by rw[bD,if_neg (by omega)],hb,?_⟩
 have hnd:((names.map (index cols)).map Int.toNat).Nodup:=by
  rw[List.nodup_iff_pairwise_ne,List.map_map,List.pairwise_iff_getElem]
  intro i j hi hj hij e
  rw[List.length_map]at hi hj
  rw[List.getElem_map,List.getElem_map]at e
  have q1:=hat i names[i] (List.getElem?_eq_getElem hi)
  have q2:=hat j names[j] (List.getElem?_eq_getElem hj)
  obtain ⟨c,c1,c2⟩:=zl (cols:=cols) (s:=names[i]) (i:=(index cols names[i]).toNat) (by omega)
  obtain ⟨d,d1,d2⟩:=zl (cols:=cols) (s:=names[j]) (i:=(index cols names[j]).toNat) (by omega)
  have e2:(index cols names[i]).toNat=(index cols names[j]).toNat:=e
  rw[e2,d1]at c1
  injection c1 with c1
  subst c1
  have h3:jm (names.take j) names[j]=true:=by
   rw[jm,List.any_eq_true]
   refine ⟨names[i],?_,by rw[<-c2,d2];simp⟩
   exact List.mem_iff_getElem.2 ⟨i,by rw[List.length_take];omega,by rw[List.getElem_take]⟩
  rw[q2.2]at h3
  cases h3
 have h1:((names.map (index cols)).map Int.toNat).length<=(List.range cols.length).length:=List.Nodup.length_le_of_subset hnd (λx hx=>by
  obtain ⟨y,hy,rfl⟩:=List.mem_map.1 hx
  obtain ⟨s,hs,rfl⟩:=List.mem_map.1 hy
  have:=hb s hs
  exact List.mem_range.2 (by omega))
 simpa using h1
theorem su {cols:List Col}{names:List ByteArray}{row:List Val}(hc:aD cols=0)(h:(bD cols names).1=0)(hr:aS cols row=0):
  (aN cols names row).length=names.length/\(aN cols names row).length<=12/\ ∀v∈aN cols names row,valid v=true:=by
 obtain ⟨h1,h2,h3⟩:=fC h
 have hl:=iU hr
 have hcl:cols.length<=12:=by
  rw[aD]at hc
  by_cases q:cols.length<1\/12<cols.length
  ·rw[if_pos q]at hc;omega
  ·omega
 have e:(aN cols names row).length=names.length:=by rw[aN,jD,h1,List.length_map]
 refine ⟨e,by omega,λv hv=>?_⟩
 rw[aN,iC,h1,List.map_map]at hv
 obtain ⟨s,hs,rfl⟩:=List.mem_map.1 hv
 have hb:=h2 s hs
 show valid (if 0<=index cols s/\index cols s<(row.length:Int) then row.getD (index cols s).toNat zeroV else zeroV)=true
 have hb2:0<=index cols s/\index cols s<(row.length:Int):=by omega
 rw[if_pos hb2]
 have hlt:(index cols s).toNat<row.length:=by omega
 rw[List.getD_eq_getElem?_getD,List.getElem?_eq_getElem hlt]
 exact vT hr (List.getElem?_eq_getElem hlt)
theorem E9 {row:List Val}(hl:row.length<=12)(hv: ∀v∈row,valid v=true):jP row=⟨(encR row).toArray⟩:=by
 have h0:aj lL 0 row=0:=by
  refine Aq 0 λi hi=>?_
  rw[lL,hv _ (List.getElem_mem hi)]
  rfl
 rw[jP,encS,if_neg (by omega),if_neg (by omega)]
theorem M3 {a b:List Val}(hl:a.length<=12)(hv: ∀v∈a,valid v=true)(hl':b.length<=12)(hv': ∀v∈b,valid v=true):jP a=jP b↔a=b:=by
 constructor
 ·intro h
  rw[E9 hl hv,E9 hl' hv']at h
  injection h with h
  have h2:=congrArg Array.toList h
  exact Ls hl hl' hv hv' (by simpa using h2)
 ·rintro rfl;rfl
theorem bA {cols:List Col}{rows:List Ent}(h:eH cols rows=0):aX rows=0/\gU rows=true/\ ∀x∈rows,aS cols x.row=0:=by
 rw[eH]at h
 by_cases h1:aX rows=0
 ·rw[if_neg (by omega)]at h
  cases h2:gU rows
  ·rw[h2,if_pos rfl]at h;omega
  ·rw[h2,if_neg (by simp)]at h
   exact ⟨h1,rfl,Ie h λ_ _ _=>rfl⟩
 ·rw[if_pos h1]at h;exact absurd h h1
theorem eQ {rows:List Ent}(h:aX rows=0)(ht:gU rows=true):rows.length<=4096/\ ∀x∈rows,0<x.count/\x.count<=65536:=by
 have hl:rows.length<=4096:=by
  rw[aX]at h
  by_cases q:4096<rows.length
  ·rw[if_pos q]at h;omega
  ·omega
 refine ⟨hl,λx hx=>?_⟩
 rw[aX,if_neg (by omega)]at h
 obtain ⟨j,hj⟩:=List.mem_iff_getElem?.1 hx
 have h1:=dQ h j x hj
 rw[dO]at h1
 have h2:dw x=0:=by
  by_cases q:dw x=0
  ·exact q
  ·rw[if_pos q]at h1;exact absurd h1 q
 rw[if_neg (by omega)]at h1
 have h3:x.count≠0:=λq=>by rw[if_pos q]at h1;omega
 have h4: -65536<=x.count/\x.count<=65536:=by
  rw[dw]at h2
  by_cases q:12<x.row.length\/x.count < -65536\/65536<x.count
  ·rw[if_pos q]at h2;omega
  ·omega
 rw[gU,Bool.and_eq_true,List.all_eq_true]at ht
 have h5:=ht.2 x hx
 simp at h5
 omega
theorem fw {c:Chk}{rc oc:List Col}{zs:List Zone}(h:bu c rc oc zs=0):
  (0<=c.kind/\c.kind<=6)/\aD rc=0/\(iE c.kind=false->(bD rc c.cols).1=0/\0<c.cols.length/\((c.kind=2\/c.kind=6)->c.cols.length=1)/\(iL c.kind=true->aD oc=0/\(bD oc c.ocols).1=0/\c.cols.length=c.ocols.length)):=by
 rw[bu]at h
 by_cases h1:c.kind<0\/6<c.kind\/c.policy<0\/2<c.policy
 ·rw[if_pos h1]at h;omega
 rw[if_neg h1]at h
 by_cases h2:c.policy=0/\(c.kind=5\/c.kind=6)
 ·rw[if_pos h2]at h;omega
 rw[if_neg h2]at h
 by_cases h3:aD rc=0
 ·rw[if_neg (by omega)]at h
  refine ⟨by omega,h3,λhu=>?_⟩
  rw[if_pos hu,jA]at h
  by_cases h4:(bD rc c.cols).1=0
  ·have e4:=(fC h4).1
   have l4:(bD rc c.cols).2.length=c.cols.length:=by rw[e4,List.length_map]
   rw[if_neg (by omega)]at h
   by_cases h5:(bD rc c.cols).2.length=0\/((c.kind=2\/c.kind=6)/\1<(bD rc c.cols).2.length)
   ·rw[if_pos h5]at h;omega
   rw[if_neg h5]at h
   refine ⟨h4,by omega,by omega,λho=>?_⟩
   by_cases h6:(c.kind=2\/c.kind=6)/\(rc.getD ((bD rc c.cols).2.getD 0 0).toNat default).kind≠2
   ·rw[if_pos h6]at h;omega
   rw[if_neg h6,ho,if_neg (by simp)]at h
   by_cases h7:aD oc=0
   ·rw[if_neg (by omega)]at h
    by_cases h8:(bD oc c.ocols).1=0
    ·have e8:=(fC h8).1
     have l8:(bD oc c.ocols).2.length=c.ocols.length:=by rw[e8,List.length_map]
     rw[if_neg (by omega)]at h
     by_cases h9:(bD rc c.cols).2.length=(bD oc c.ocols).2.length
     ·exact ⟨h7,h8,by omega⟩
     ·rw[if_pos h9]at h;omega
    ·rw[if_pos h8]at h;exact absurd h h8
   ·rw[if_pos h7]at h;exact absurd h h7
  ·rw[if_pos h4]at h;exact absurd h h4
 ·rw[if_pos h3]at h;exact absurd h h3
theorem dR {c:Chk}{rc oc:List Col}{rr orr:List Ent}{zs:List Zone}(h:aI c rc oc rr orr zs=0):bu c rc oc zs=0/\eH rc rr=0/\(iL c.kind=true->eH oc orr=0):=by
 rw[aI]at h
 by_cases h1:bu c rc oc zs=0
 ·rw[if_neg (by omega)]at h
  by_cases h2:eH rc rr=0
  ·rw[if_neg (by omega)]at h
   refine ⟨h1,h2,λhu=>?_⟩
   rw[if_pos hu]at h
   exact h
  ·rw[if_pos h2]at h;exact absurd h h2
 ·rw[if_pos h1]at h;exact absurd h h1
open Go.RowKit Go.Maps
def uI (cols:List Col)(names:List ByteArray)(rows:List Ent)(s:ByteArray):Int:=aH (rows.filter λx=>decide (jP (aN cols names x.row)=s))
theorem I4 (cols:List Col)(names:List ByteArray)(rows:List Ent)(x:Ent)(s:ByteArray):
  uI cols names (rows++[x]) s=if s=jP (aN cols names x.row) then uI cols names rows s+x.count else uI cols names rows s:=by
 rw[uI,uI,List.filter_append,lK]
 by_cases h:s=jP (aN cols names x.row)
 ·subst h
  rw[if_pos rfl,List.filter_cons_of_pos (by simp),List.filter_nil,aH,aH]
  omega
 ·rw[if_neg h]
  have h2:decide (jP (aN cols names x.row)=s)=false:=by simpa using λe:jP (aN cols names x.row)=s=>h e.symm
  simp[h2,aH]
theorem Od {cols:List Col}{names:List ByteArray}{rows:List Ent}(h: ∀x∈rows,0<x.count/\x.count<=65536)(hl:rows.length<=4096)(s:ByteArray):0<=uI cols names rows s/\uI cols names rows s<=268435456:=by
 have h1:=Dm (l:=rows.filter λx=>decide (jP (aN cols names x.row)=s)) (C:=65536) λx hx=>by
  have:=h x (List.mem_filter.1 hx).1
  omega
 have h2:=List.length_filter_le (λx:Ent=>decide (jP (aN cols names x.row)=s)) rows
 rw[uI]
 omega
theorem uf (row:List Val):(jP row).size<=maxLen:=by
 have h:(encS row).2.length<=1000:=by
  rw[encS]
  split
  ·simp
  ·split
   ·simp
   ·rename_i h1 h2
    have h3:aj lL 0 row=0:=by omega
    have h4: ∀v∈row,valid v=true:=λv hv=>by
     have:=Ie h3 (λ_ _ _=>rfl) v hv
     rw[lL]at this
     cases h:valid v
     ·rw[h]at this;simp at this
     ·rfl
    have key: ∀l:List Val,(∀v∈l,valid v=true)->(l.flatMap iP).length<=66*l.length:=λl=>by
     induction l with
     |nil=>intro _;simp
     |cons v l ih=>
      intro hv
      have i1:=ih λu hu=>hv u (by simp[hu])
      have i2:(iP v).length<=66:=by
       rcases lM (hv v (by simp)) with h|h|h|h|h
       ·rw[iP];simp[h.1]
       ·rw[iP];simp[h.1]
       ·rw[iP];simp[h.1,kP]
       ·exact oq v (s:=v.str) (by omega) rfl
       ·rw[iP];simp[h.1,kP]
      rw[List.flatMap_cons,List.length_append,List.length_cons]
      omega
    have:=key row h4
    show (encR row).length<=1000
    rw[encR,List.length_cons]
    omega
 show (encS row).2.toArray.size<=maxLen
 rw[List.size_toArray]
 simp only[maxLen]
 omega
theorem gD {α:Type}[Rep α]{e:TypeId}{B:Nat}{O:Nat->Prop}{T:List TypeId}{w:World}{A:Option Addr}{m c:Nat}{xs:List α}(h:OL e B O T w (.slice A m c) xs)(hl:xs.length=m):In w A m c xs:=by
 obtain ⟨A9,c9,e9,h9⟩:=h.inn
 injection e9 with q1 q2 q3
 subst q1 q3
 rw[hl]at h9
 exact h9
theorem wM (w:World)(nm:ByteArray)(A:Option Addr)(n c:Nat)(cols:List Col)(hc:In w A n c cols)(A':Option Addr)(n' c':Nat)(A2:Option Addr)(n2 c2:Nat)(rows:List Ent)(hr:In w A2 n2 c2 rows)(A3:Option Addr)(n3 c3:Nat)(names:List ByteArray)(hn:In w A3 n3 c3 names)(hb0:n<=4096)(hb1:n3<=4096)(hb2:n2<=4096)(hcnt: ∀x∈rows,0<x.count/\x.count<=65536):
  Calls Tryz.prog 94 #[.agg #[.string nm,.slice A n c,.slice A' n' c',.slice A2 n2 c2],.slice A3 n3 c3] w
   λe w'=>(∃b,e=.returned (.map (some b))/\w.heap.size<=b/\kQ Tryz.prog 9 w' b n2 (.int .i64 0) (λs=>.int .i64 (uI cols names rows s)))/\Below w.heap.size w w':=by
 have h63:=hr.le
 have hmm:=@run_makeMap Tryz.prog
 have Sv:=hide hcnt
 have Ah:=hide hr.len
 clear hcnt
 go_enter Tryz.func94,Tryz.ntmps94
 have HC:=hide hc
 clear hc
 have HR:=hide hr
 clear hr
 have HN:=hide hn
 clear hn
 go_wp2_with fail
 obtain ⟨W1,hW1⟩: ∃W,W=w.alloc (.cells #[.string nm,.slice A n c,.slice A' n' c',.slice A2 n2 c2] 32):=⟨_,rfl⟩
 obtain ⟨hbW1,fO,g0,g1,g2,g3⟩:=pE hW1 rfl
 rw[<-hW1]
 clear hW1
 have HC:=hide (HC.out.below hbW1)
 have HR:=hide (HR.out.below hbW1)
 have HN:=hide (HN.out.below hbW1)
 have qA:=hide hbW1
 clear hbW1
 have LR:=lt_of_cell g0
 have IB:=hide (kQ.made Tryz.prog 9 W1 (.int .i64 0))
 have HB0:Hid (Below W1.heap.size W1 (W1.alloc (.map #[] 0))):=hide af
 rw[<-fO.out]
 go_wp2
 go_loopw [12] (λi wr=> ∃k:Nat,k<=n2/\i=.int .i64 k/\kQ Tryz.prog 9 wr W1.heap.size k (.int .i64 0) (λs=>.int .i64 (uI cols names (rows.take k) s))/\Below W1.heap.size W1 wr) (λi _=>n2-(RowKit.intOf i).toNat)
 case atStart=>exact ⟨0,Nat.zero_le _,rfl,IB.out,HB0.out⟩
 case round=>
  obtain ⟨k,hk,rfl,hm,hb⟩:=hrel
  have HM:=hide hm
  clear hm
  have HC:=hide (HC.out.below hb)
  have HR:=hide (HR.out.below hb)
  have HN:=hide (HN.out.below hb)
  obtain ⟨g0,g1,g2,g3,LR⟩:=qH hb LR g0 g1 g2 g3
  have fK:=hide hb
  clear hb
  by_cases hlt:k<n2
  ·obtain ⟨b,off,x,rfl,hBb,HX,Ax,An,Ac,e0,e1,e2,e3⟩:=HR.out.ent hlt
   have k0:(0:Int)<=(k:Int):=by omega
   have k1:(k:Int)<(n2:Int):=by omega
   have Zp:=hide (Sv.out x (aM HX.out))
   have QB:=hide (λs=>Od (cols:=cols) (names:=names) (rows:=rows.take k) (λy hy=>Sv.out y (List.mem_of_mem_take hy)) (by rw[List.length_take];omega) s)
   obtain ⟨T,hT⟩: ∃T,jP (aN cols names x.row)=T:=⟨_,rfl⟩
   obtain ⟨F,hF⟩: ∃F,uI cols names (rows.take k) T=F:=⟨_,rfl⟩
   have NN:=hide (uf (aN cols names x.row))
   rw[hT]at NN
   have HT:=hide hT
   have HF:=hide hF
   have Yv:=QB.out T
   rw[hF]at Yv
   have Mo:=Zp.out
   have hwr:IntKind.i64.wrap (F+x.count)=F+x.count:=IntWalk.i64_in _ (by omega)
   have Ve:Hid (W1.heap.size<wr.heap.size):=hide HM.out.lt
   have Yk:Hid (∀V,V.heap[W1.heap.size]?=wr.heap[W1.heap.size]?->(Instr.lookup 132 (.map (some W1.heap.size)) (.string T) false).run Tryz.prog V=.ok (.int .i64 F) V/\
     ∃w2,(Instr.mapUpdate 132 (.map (some W1.heap.size)) (.string T) (.int .i64 (F+x.count))).run Tryz.prog V=.ok () w2/\kQ Tryz.prog 9 w2 W1.heap.size (k+1) (.int .i64 0) (λs=>.int .i64 (uI cols names (rows.take (k+1)) s))/\V.grownBy w2 (some W1.heap.size)):=hide λV hV=>by
    refine ⟨?_,?_⟩
    ·rw[<-HF.out]
     exact HM.out.look Tryz.underlying132 Tryz.underlying9 (λV=>Tryz.zeroValue3 V) NN.out hV
    ·obtain ⟨w2,h1,h2,h3⟩:=(HM.out.same hV).update Tryz.underlying132 Tryz.underlying9 NN.out (by simp only[maxLen];omega) (.int .i64 (F+x.count))
     refine ⟨w2,h1,h2.congr λs=>?_,h3⟩
     rw[bP HX.out,I4,HT.out]
     by_cases hs:s=T
     ·subst hs;rw[if_pos rfl,if_pos rfl,HF.out]
     ·rw[if_neg hs,if_neg hs]
   clear hT hF Yv Mo
   have HE2:=hide e2
   go_wp2_with fail
   obtain ⟨W2,hW2⟩: ∃W,W=wr.alloc (.cells #[.slice Ax An Ac,.int .i64 x.count] 61):=⟨_,rfl⟩
   obtain ⟨hbW2,DN,x0,x1⟩:=iM hW2 rfl
   rw[<-hW2]
   clear hW2
   have HC:=hide (HC.out.below hbW2)
   have HN:=hide (HN.out.below hbW2)
   obtain ⟨g0,g1,g2,g3,LR⟩:=qH hbW2 LR g0 g1 g2 g3
   have Tq:=hide hbW2
   have oO:=hide (aa fK.out hbW2)
   clear hbW2
   have LX:=lt_of_cell x0
   have G1:=hide g1
   have X0:=hide x0
   have X1:=hide x1
   have Zo:=hide (HE2.out.below Tq.out)
   have HW2:=hide Tq.out
   have Vj:=hide oO.out
   clear x0 x1 e0 e1 e2 HE2
   have x0:=X0.out
   have x1:=X1.out
   have Jy:True:=trivial
   go_region_held3 (λV=>V.cell? ⟨w.heap.size,1,none⟩=some (.slice A n c)/\V.cell? ⟨wr.heap.size,0,none⟩=some (.slice Ax An Ac)/\V.cell? ⟨wr.heap.size,1,none⟩=some (.int .i64 x.count))
    (first|exact ⟨u0,u1,u2⟩|exact ⟨ah BU.out LR G1.out,ah BU.out LX X0.out,ah BU.out LX X1.out⟩|exact ⟨ah HB3.out LR G1.out,ah HB3.out LX X0.out,ah HB3.out LX X1.out⟩|exact ⟨g1,x0,x1⟩)
    (first
     |(clear Jy;go_at_call 89;refine (pX _ A n c cols (by exact HC.out.below (Below.refl _ _).drew) A3 n3 c3 names (by exact HN.out.below (Below.refl _ _).drew) Ax An Ac x.row (by exact Zo.out.below (Below.refl _ _).drew) (by omega) hb1).mono ?_;rintro e w3 ⟨⟨A4,m4,c4,rfl,Uz,VO,ZT⟩,hb3⟩;have HI:=hide (gD Uz VO);have HB3:=hide (ag hb3);clear Uz VO ZT hb3;have ED:True:=trivial)
     |(clear ED;go_at_call 96;refine (zP _ A4 m4 c4 _ (by exact HI.out)).mono ?_;rintro e w4 ⟨rfl,hb4⟩;rw[HT.out];have BU:=hide (aa HB3.out hb4);have Yi:=hide (aa HW2.out BU.out);have lk:=(Yk.out w4 (Yi.out.block _ Ve.out)).1;obtain ⟨w5,Yz,Yx,hg5⟩:=(Yk.out w4 (Yi.out.block _ Ve.out)).2;have Zb:=hide Yx;have lQ:Hid (Below W1.heap.size W1 w5):=hide ((aa Vj.out BU.out).grown hg5 (aa Vj.out BU.out).size (λj e=>by injection e with e;omega));have u0:=(World.cell?_of_block (a:=⟨w.heap.size,1,none⟩) (hg5.block w.heap.size (lt_of_cell (ah BU.out LR G1.out)) (λe=>by injection e with e;have:=fO.out;omega))).trans (ah BU.out LR G1.out);have u1:=(World.cell?_of_block (a:=⟨wr.heap.size,0,none⟩) (hg5.block wr.heap.size (lt_of_cell (ah BU.out LX X0.out)) (λe=>by injection e with e;have:=Ve.out;omega))).trans (ah BU.out LX X0.out);have u2:=(World.cell?_of_block (a:=⟨wr.heap.size,1,none⟩) (hg5.block wr.heap.size (lt_of_cell (ah BU.out LX X1.out)) (λe=>by injection e with e;have:=Ve.out;omega))).trans (ah BU.out LX X1.out);clear hb4 Yx hg5;have Nq:True:=trivial))
   go_wp2
   go_roundw
   case rel=>exact ⟨k+1,by omega,by go_num,Zb.out,lQ.out⟩
   case measure=>simp[RowKit.intOf];omega
  ·have HF:Hid (rows.take k=rows):=hide (List.take_of_length_le (by have:=Ah.out;omega))
   have vD:=HM.out
   rw[HF.out]at vD
   have vD:=hide vD
   obtain rfl:k=n2:=by omega
   go_wp2
   go_ret
   exact ⟨⟨_,rfl,by have:=qA.out.size;omega,vD.out⟩,(aa qA.out fK.out)⟩
def jK {α:Type}(p:α->Bool):Nat->List α->Int
 | _,[]=> -1
 |k,x :: l=>if p x then k else jK p (k+1) l
theorem Cx {α:Type}(p:α->Bool)(l:List α): ∀k,(decide (0<=jK p k l))=l.any p:=by
 induction l with
 |nil=>intro k;rfl
 |cons x l ih=>
  intro k
  rw[jK]
  cases h:p x
  ·rw[if_neg (by simp),ih (k+1)];simp[h]
  ·rw[if_pos rfl];simp[h]
theorem MJ (v:Val)(w:World):
  Calls Tryz.prog 140 #[.agg v.cells.toArray] w λe w'=>e=.returned (.bool (v.kind==0))/\Below w.heap.size w w':=by
 simp only[Val.cells]
 go_enter Tryz.func140,Tryz.ntmps140
 go_wp2
 go_ret
 exact ⟨rfl,af⟩
theorem zg (w:World)(A:Option Addr)(n c:Nat)(xs:List Val)(hx:In w A n c xs):
  Calls Tryz.prog 170 #[.slice A n c,.func (.func 140) #[] #[]] w
   λe w'=>e=.returned (.int .i64 (jK (λv:Val=>v.kind==0) 0 xs))/\Below w.heap.size w w':=by
 have h63:=hx.le
 go_enter Tryz.func170,Tryz.ntmps170
 go_wp2
 go_loopw [8] (λi wr=> ∃k:Nat,k<=n/\i=.int .i64 k/\jK (λv:Val=>v.kind==0) 0 xs=jK (λv:Val=>v.kind==0) k (xs.drop k)/\Below w.heap.size w wr) (λi _=>n-(intOf i).toNat)
 case atStart=>exact ⟨0,Nat.zero_le _,rfl,rfl,Below.refl _ _⟩
 case round=>
  obtain ⟨k,hk,rfl,heq,hb⟩:=hrel
  have HE:=hide heq
  clear heq
  by_cases hlt':k<n
  ·obtain ⟨b,off,x,rfl,hB,HX,e0,e1,e2,e3⟩:=(hx.below hb).val hlt'
   go_wp2_with fail
   refine (MJ x _).mono ?_
   rintro e w1 ⟨rfl,hb1⟩
   have hbb:=aa hb hb1
   clear hb1 e0 e1 e2
   cases hz:(x.kind==0)
   ·go_wp2
    all_goals (try (exfalso;go_light;simp_all;done))
    go_roundw
    case rel=>exact ⟨k+1,by omega,by go_num,by rw[HE.out,HX.out,jK,if_neg (by simp[hz])],hbb⟩
    case measure=>simp[intOf];omega
   ·go_wp2
    all_goals (try (exfalso;go_light;simp_all;done))
    go_ret
    exact ⟨ak (by rw[HE.out,HX.out,jK,if_pos hz]),hbb⟩
  ·go_wp2
   go_ret
   exact ⟨ak (by rw[HE.out,aP hx.len (by omega),jK]),hb⟩
theorem uJ (w:World)(A:Option Addr)(n c:Nat)(xs:List Val)(hx:In w A n c xs):
  Calls Tryz.prog 139 #[.slice A n c,.func (.func 140) #[] #[]] w
   λe w'=>e=.returned (.bool (decide (0<=jK (λv:Val=>v.kind==0) 0 xs)))/\Below w.heap.size w w':=by
 go_enter Tryz.func139,Tryz.ntmps139
 go_wp2_with fail
 refine (zg _ _ _ _ xs hx).mono ?_
 rintro e w1 ⟨rfl,hb1⟩
 go_wp2
 go_ret
 exact ⟨rfl,hb1⟩
theorem wY (w:World)(A:Option Addr)(n c:Nat)(xs:List Val)(hx:In w A n c xs):
  Calls Tryz.prog 98 #[.slice A n c] w λe w'=>e=.returned (.bool (kZ xs))/\Below w.heap.size w w':=by
 have HN:=hide (Cx (λv:Val=>v.kind==0) xs 0)
 go_enter Tryz.func98,Tryz.ntmps98
 go_wp2_with fail
 refine (uJ _ _ _ _ xs hx).mono ?_
 rintro e w1 ⟨rfl,hb1⟩
 rw[HN.out]
 go_wp2
 go_ret
 exact ⟨rfl,hb1⟩
theorem wP (w:World)(A:Option Addr)(n c:Nat)(xs:List Val)(hx:In w A n c xs):
  Calls Tryz.prog 83 #[.slice A n c] w λe w'=>e=.returned (.bool (kZ xs))/\w=w':=by
 have h63:=hx.le
 have HN:=hide (show kZ xs=xs.any (λv=>v.kind==0) from rfl)
 obtain ⟨R,hR⟩: ∃R,kZ xs=R:=⟨_,rfl⟩
 rw[hR]at HN
 rw[hR]
 clear hR
 go_enter Tryz.func83,Tryz.ntmps83
 go_wp2
 go_loop [3] (λi=> ∃k:Nat,k<=n/\i=.int .i64 k/\R=(xs.drop k).any (λv=>v.kind==0)) (λi=>n-(intOf i).toNat)
 case atStart=>exact ⟨0,Nat.zero_le _,rfl,HN.out⟩
 case round=>
  obtain ⟨k,hk,rfl,heq⟩:=hrel
  have HE:=hide heq
  clear heq HN
  by_cases hlt':k<n
  ·obtain ⟨b,off,x,rfl,hB,HX,e0,e1,e2,e3⟩:=hx.val hlt'
   cases hz:(x.kind==0)
   ·go_wp2
    all_goals (try (exfalso;go_light;simp_all;done))
    go_round
    case rel=>exact ⟨k+1,by omega,by go_num,by rw[HE.out,HX.out,List.any_cons,hz];rfl⟩
    case measure=>simp[intOf];omega
   ·obtain rfl:R=true:=by rw[HE.out,HX.out,List.any_cons,hz];rfl
    go_wp2
    all_goals (try (exfalso;go_light;simp_all;done))
    go_ret
    exact ⟨rfl,rfl⟩
  ·obtain rfl:R=false:=by rw[HE.out,aP hx.len (by omega)];rfl
   go_wp2
   all_goals (try (exfalso;go_light;simp_all;done))
   go_ret
   exact ⟨rfl,rfl⟩
end Go.Proofs.YtggejcekmehocaaGreatDoor
