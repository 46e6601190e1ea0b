/-
  check.text, check.picked; warehouseref28.pick. Plain law: what check.Violations answers; the texts of picked values tell them apart. No program is in sight. check.counted: how many rows have which values. check.missing; warehouseref28.hasNull: whether a row has a null.
-/
import Derived.Test.YtggejcekmehocaaGreatDoorGaq
import Derived.Test.YtggejcekmehocaaGreatDoorGar
import Derived.Test.YtggejcekmehocaaGreatDoorGau
import Derived.Test.YtggejcekmehocaaGreatDoorGaa
namespace Go.Proofs.YtggejcekmehocaaGreatDoor
set_option maxHeartbeats 4000000
set_option maxRecDepth 100000
open Go.RowKit
set_option linter.unusedSimpArgs false
set_option linter.unusedVariables false
def dC (row:List Val):ByteArray:=⟨(encS row).2.toArray⟩
theorem Eb {w:World}{B n c:Nat}{A:Option Addr}{bs:List UInt8}(h:OB B w (.slice A n c) bs)(hl:bs.length=n):
  (convert 127 9 (.slice A n c)).run Tryz.prog w=.ok (.string ⟨bs.toArray⟩) w:=by
 obtain ⟨cs,h1,h2⟩:=h.own;obtain rfl:=yR h2;rcases h1.2 with ⟨e,hz⟩|⟨g,cap,cur,e,hb,hh,r1,r2,r3,r4⟩
 ·injection e with e1 e2 e3;subst e1 e2 e3;obtain rfl:bs=[]:=List.eq_nil_of_length_eq_zero hl;rw[run_convert_bytes_string w 127 9 5 none 0 0 Tryz.underlying127 Tryz.underlying5 Tryz.underlying9];rfl
 ·injection e with e1 e2 e3;subst e1 e2 e3;refine run_convert_bytes_back w 127 9 5 ⟨g,0,none⟩ _ bs Tryz.underlying127 Tryz.underlying5 Tryz.underlying9 λj hj=>?_;rw[dM,Nat.zero_add,cell_of_row w g _ cur _ (0,0) hh];have h3:(cur.toList.take (bs.length*1))[j]?=(bs.map λb=>Value.int .u8 b.toNat)[j]?:=by rw[<-r4];rfl
  rw[List.getElem?_take_of_lt (by omega)]at h3;rw[<-Array.getElem?_toList,h3];simp[hj]
theorem z8 (w:World)(A:Option Addr)(n c:Nat)(row:List Val)(hx:In w A n c row):
  Calls Tryz.prog 96 #[.slice A n c] w λe w'=>e=.returned (.string (dC row))/\Below w.heap.size w w':=by
 have HT:=hide (show dC row=⟨(encS row).2.toArray⟩ from rfl);generalize dC row=R at*;go_enter Tryz.func96,Tryz.ntmps96;go_wp2_with fail;refine (y9 _ A n c row (by exact hx)).mono ?_;rintro e w1 ⟨⟨v,rfl,ho⟩,hb⟩;obtain ⟨A1,c1,rfl⟩:=ho.form;have sF:=Eb ho rfl;rw[<-HT.out]at sF;have HB:=hide hb;clear ho hb HT;go_wp2;go_ret;exact ⟨rfl,HB.out⟩
def aF (cols:List Col)(names:List ByteArray)(row:List Val):List Val:=fV row (aW cols names).2
theorem iN (cols:List Col)(names:List ByteArray):(aW cols names).2.length<=names.length:=by
 rw[aW]
 split
 ·exact Nat.zero_le _
 ·simp
theorem gX (row:List Val)(ks:List Int):(fV row ks).length=ks.length:=by rw[fV,List.length_map]
theorem zO (w:World)(A:Option Addr)(n c:Nat)(cols:List Col)(hx:In w A n c cols)(A2:Option Addr)(n2 c2:Nat)(names:List ByteArray)(hy:In w A2 n2 c2 names)(A3:Option Addr)(n3 c3:Nat)(row:List Val)(hz:In w A3 n3 c3 row)(hn:n<=1048576)(hn2:n2<=4096):
  Calls Tryz.prog 89 #[.slice A n c,.slice A2 n2 c2,.slice A3 n3 c3] w
   λe w'=>(∃A' m c',e=.returned (.slice A' m c')/\OL 74 w.heap.size (λ_=>False) [] w' (.slice A' m c') (aF cols names row)/\(aF cols names row).length=m/\m<=n2)/\Below w.heap.size w w':=by
 have HL:=hide (iN cols names);have HP:=hide (show aF cols names row=fV row (aW cols names).2 from rfl);have Tm:=hide hy.len;have Ma:=λW hx hy=>nW W A n c cols hx A2 n2 c2 names hy (by omega) hn;obtain ⟨ke,hke⟩: ∃k,aW cols names=k:=⟨_,rfl⟩;rw[hke]at HL HP Ma;obtain ⟨R,hR⟩: ∃R,aF cols names row=R:=⟨_,rfl⟩;rw[hR]at HP;rw[hR];clear hke hR;obtain ⟨ke,ks⟩:=ke;have Tj:=hide Ma;clear Ma;go_enter Tryz.func89,Tryz.ntmps89;have HX:=hide hx;clear hx;have HY:=hide hy;clear hy;have HZ:=hide hz;clear hz;go_wp2_with fail;refine (Tj.out _ (by exact HX.out) (by exact HY.out)).mono ?_;rintro e w1 ⟨⟨v,rfl,ho⟩,hb1⟩;obtain ⟨A4,c4,rfl⟩:=ho.form;have hkl:ks.length<=n2:=by rw[<-Tm.out];exact HL.out
 obtain ⟨m,hm⟩: ∃m,ks.length=m:=⟨_,rfl⟩;have hI:=ho.inn;obtain ⟨A9,c9,e9,h9⟩:=hI;injection e9 with e1 e2 e3;subst e1 e3;rw[hm]at h9 hkl⊢;have HM:=hide hm;clear ho e2 hm;have HZ:=hide (HZ.out.below hb1);have p8:=hide hb1;clear hb1;have HK:=hide h9;clear h9;go_wp2_with fail;refine (Fg _ A3 n3 c3 row (by exact HZ.out) A4 m c4 ks (by exact HK.out) (by omega)).mono ?_;rintro e w2 ⟨⟨A5,c5,rfl,ho2⟩,hb2⟩;have kv:=hide (ho2.rebase p8.out.size);have fq:=hide (aa p8.out hb2);clear hb2;clear ho2;go_wp2;go_ret;exact ⟨⟨A5,m,c5,rfl,by rw[HP.out];exact kv.out,by rw[HP.out,gX,HM.out],hkl⟩,fq.out⟩
theorem iP (w:World)(A:Option Addr)(n c:Nat)(cols:List Col)(hx:In w A n c cols)(A2:Option Addr)(n2 c2:Nat)(names:List ByteArray)(hy:In w A2 n2 c2 names)(A3:Option Addr)(n3 c3:Nat)(row:List Val)(hz:In w A3 n3 c3 row)(hn:n<=1048576)(hn2:n2<=4096):
  Calls Tryz.prog 82 #[.slice A n c,.slice A2 n2 c2,.slice A3 n3 c3] w
   λe w'=>(∃A' m c',e=.returned (.slice A' m c')/\OL 74 w.heap.size (λ_=>False) [] w' (.slice A' m c') (aF cols names row)/\(aF cols names row).length=m/\m<=n2)/\Below w.heap.size w w':=by
 have HL:=hide (iN cols names);have HP:=hide (show aF cols names row=fV row (aW cols names).2 from rfl);have Tm:=hide hy.len;have Ma:=λW hx hy=>iM W A n c cols hx A2 n2 c2 names hy (by omega) hn;obtain ⟨ke,hke⟩: ∃k,aW cols names=k:=⟨_,rfl⟩;rw[hke]at HL HP Ma;obtain ⟨R,hR⟩: ∃R,aF cols names row=R:=⟨_,rfl⟩;rw[hR]at HP;rw[hR];clear hke hR;obtain ⟨ke,ks⟩:=ke;have Tj:=hide Ma;clear Ma;go_enter Tryz.func82,Tryz.ntmps82;have HX:=hide hx;clear hx;have HY:=hide hy;clear hy;have HZ:=hide hz;clear hz;go_wp2_with fail;refine (Tj.out _ (by exact HX.out) (by exact HY.out)).mono ?_;rintro e w1 ⟨⟨v,rfl,ho⟩,hb1⟩;obtain ⟨A4,c4,rfl⟩:=ho.form;have hkl:ks.length<=n2:=by rw[<-Tm.out];exact HL.out
 obtain ⟨m,hm⟩: ∃m,ks.length=m:=⟨_,rfl⟩;have hI:=ho.inn;obtain ⟨A9,c9,e9,h9⟩:=hI;injection e9 with e1 e2 e3;subst e1 e3;rw[hm]at h9 hkl⊢;have HM:=hide hm;clear ho e2 hm;have HZ:=hide (HZ.out.below hb1);have uH:=hide hb1;clear hb1;have HK:=hide h9;clear h9;go_wp2_with fail;refine (MV _ A3 n3 c3 row (by exact HZ.out) A4 m c4 ks (by exact HK.out) (by omega)).mono ?_;rintro e w2 ⟨⟨A5,c5,rfl,ho2⟩,hb2⟩;have kv:=hide (ho2.rebase uH.out.size);have kK:=hide (aa uH.out hb2);clear hb2;clear ho2;go_wp2;go_ret;exact ⟨⟨A5,m,c5,rfl,by rw[HP.out];exact kv.out,by rw[HP.out,gX,HM.out],hkl⟩,kK.out⟩
def bf (c:Chk)(rc oc:List Col)(rr orr:List Ent)(zs:List Zone):Int:=
 if aR c rc oc zs≠0 then aR c rc oc zs else if dh rc rr≠0 then dh rc rr else if cK c.kind=true then dh oc orr else 0
def lg (row:List Val):Bool:=row.any λv=>v.kind==0
def oK (cond:List Node)(cols:List Col)(row:List Val)(zs:List Zone):Bool:=(gp cond cols row zs).1==0&&truth (gp cond cols row zs).2==1
def iU:List Ent->Int
 | []=>0
 |x :: l=>x.count+iU l
def II (a b:List Val):Bool:=ax a b==0
def wh (cols:List Col)(names:List ByteArray)(rows:List Ent)(v:List Val):List Ent:=rows.filter λx=>II (aF cols names x.row) v
def GX (c:Chk)(v:Val):Bool:=v.kind != 0&&(decide (v.num<c.low) || decide (c.high<v.num))
def bR (c:Chk)(rc oc:List Col)(rr orr:List Ent)(zs:List Zone)(row:List Val):Bool:=
 if c.kind=0 then decide (1<iU (wh rc c.cols rr (aF rc c.cols row)))
 else if c.kind=1 then lg (aF rc c.cols row)
 else if c.kind=2 then GX c ((aF rc c.cols row).getD 0 zeroV)
 else if c.kind=3 then !lg (aF rc c.cols row)&&(wh oc c.ocols orr (aF rc c.cols row)).isEmpty
 else if c.kind=4 then !oK c.cond rc row zs
 else false
def gU (c:Chk)(rc oc:List Col)(rr orr:List Ent)(zs:List Zone):Int×List Ent:=
 if bf c rc oc rr orr zs≠0 then (bf c rc oc rr orr zs,[]) else (0,rr.filter λx=>bR c rc oc rr orr zs x.row)
theorem Iw {α:Type}{f:Nat->α->Int}{l:List α}{k:Nat}(h:ah f k l=0)(hf: ∀i j x,f i x=f j x): ∀x∈l,f 0 x=0:=λx hx=>by
 obtain ⟨j,hj⟩:=List.mem_iff_getElem?.1 hx;rw[hf 0 (k+j) x];exact dE h j x hj
theorem Ji {cols:List Col}{row:List Val}(h:aC cols row=0){i:Nat}{v:Val}(hv:row[i]?=some v):valid v=true:=by
 have h1:=zU h hv;rw[bI]at h1;cases q:valid v
 ·rw[if_pos q]at h1;omega
 ·rfl
theorem sU {a b:List Val}:II a b=true↔a=b:=by rw[II,beq_iff_eq,bV]
theorem FC (l m:List Ent):iU (l++m)=iU l+iU m:=by
 induction l with
 |nil=>simp[iU]
 |cons x l ih=>rw[List.cons_append,iU,iU,ih];omega
theorem Dv {l:List Ent}{C:Int}(h: ∀x∈l,0<=x.count/\x.count<=C):0<=iU l/\iU l<=C*(l.length:Int):=by
 induction l with
 |nil=>simp[iU]
 |cons x l ih=>
  have h1:=h x (by simp);have h2:=ih λy hy=>h y (by simp[hy]);rw[iU,List.length_cons,show C*((l.length+1:Nat):Int)=C*(l.length:Int)+C by rw[Int.natCast_succ,Int.mul_add,Int.mul_one]];omega
theorem Ng {l:List Ent}(h: ∀x∈l,0<x.count):(iU l==0)=l.isEmpty:=by
 cases l with
 |nil=>rfl
 |cons x l=>
  have h1:=h x (by simp);have h2:=(Dv (l:=l) (C:=x.count+iU l+1) λy hy=>⟨by have:=h y (by simp[hy]);omega,by
   have key: ∀(m:List Ent),(∀z∈m,0<z.count)->y∈m->y.count<=iU m:=λm=>by
    induction m with
    |nil=>intro _ h;cases h
    |cons z m ih=>
     intro hz hy;have hp:0<=iU m:=by
      clear ih hy
      induction m with
      |nil=>simp[iU]
      |cons u m ih=>
       have:=hz u (by simp);have:=ih λq hq=>hz q (by
        rcases List.mem_cons.1 hq with rfl|hq
        ·simp
        ·simp[hq])
       rw[iU];omega
     rw[iU];have hz0:=hz z (by simp);rcases List.mem_cons.1 hy with rfl|hy
     ·omega
     ·have:=ih (λq hq=>hz q (by simp[hq])) hy;omega
   have:=key l (λz hz=>h z (by simp[hz])) hy;omega⟩).1
  rw[iU];simp;omega
theorem zB {cols:List Col}{s:ByteArray}{i:Nat}(h:index cols s=(i:Int)): ∃c,cols[i]?=some c/\c.name.toList=s.toList:=by
 have key: ∀(l:List Col) (k:Nat),aO s k l= -1\/ ∃j:Nat,aO s k l=((k+j:Nat):Int)/\ ∃c,l[j]?=some c/\c.name.toList=s.toList:=λl=>by
  induction l with
  |nil=>intro k;exact .inl rfl
  |cons c l ih=>
   intro k;rw[aO];by_cases hc:(c.name.toList==s.toList)=true
   ·rw[if_pos hc];exact .inr ⟨0,by simp,c,rfl,by simpa using hc⟩
   ·rw[if_neg hc];rcases ih (k+1) with h|⟨j,h,c',h1,h2⟩
    ·exact .inl h
    ·exact .inr ⟨j+1,by rw[h];congr 1;omega,c',by simpa using h1,h2⟩
 rcases key cols 0 with h1|⟨j,h1,c,h2,h3⟩
 ·rw[index,h1]at h;omega
 ·rw[index,h1]at h;obtain rfl:j=i:=by omega
  exact ⟨c,h2,h3⟩
theorem jF {cols:List Col}{names:List ByteArray}(h:(aW cols names).1=0):
  (aW cols names).2=names.map (index cols)/\(∀s∈names,0<=index cols s/\index cols s<(cols.length:Int))/\names.length<=cols.length:=by
 have h0:ib cols names=0:=by
  rw[aW]at h;by_cases h1:ib cols names=0
  ·exact h1
  ·rw[if_pos h1]at h;exact h
 have hall:=dE (f:=wX cols names) (l:=names) (k:=0) h0;have hat: ∀(j:Nat) (s:ByteArray),names[j]?=some s->0<=index cols s/\jq (names.take j) s=false:=λj s hs=>by
  have h1:=hall j s hs;rw[Nat.zero_add,wX]at h1;by_cases h2:index cols s<0
  ·rw[if_pos h2]at h1;omega
  ·rw[if_neg h2]at h1;refine ⟨by omega,?_⟩;cases h3:jq (names.take j) s
   ·rfl
   ·rw[h3]at h1;simp at h1
 have hb: ∀s∈names,0<=index cols s/\index cols s<(cols.length:Int):=λs hs=>by
  obtain ⟨j,hj⟩:=List.mem_iff_getElem?.1 hs;exact ⟨(hat j s hj).1,(zA cols s).2⟩
 refine ⟨by rw[aW,if_neg (by omega)],hb,?_⟩;have hnd:((names.map (index cols)).map Int.toNat).Nodup:=by
  rw[List.nodup_iff_pairwise_ne,List.map_map,List.pairwise_iff_getElem];intro i j hi hj hij e;rw[List.length_map]at hi hj;rw[List.getElem_map,List.getElem_map]at e;have q1:=hat i names[i] (List.getElem?_eq_getElem hi);have q2:=hat j names[j] (List.getElem?_eq_getElem hj);obtain ⟨c,c1,c2⟩:=zB (cols:=cols) (s:=names[i]) (i:=(index cols names[i]).toNat) (by omega);obtain ⟨d,d1,d2⟩:=zB (cols:=cols) (s:=names[j]) (i:=(index cols names[j]).toNat) (by omega);have e2:(index cols names[i]).toNat=(index cols names[j]).toNat:=e;rw[e2,d1]at c1;injection c1 with c1;subst c1;have h3:jq (names.take j) names[j]=true:=by
   rw[jq,List.any_eq_true];refine ⟨names[i],?_,by rw[<-c2,d2];simp⟩;exact List.mem_iff_getElem.2 ⟨i,by rw[List.length_take];omega,by rw[List.getElem_take]⟩
  rw[q2.2]at h3;cases h3
 have h1:((names.map (index cols)).map Int.toNat).length<=(List.range cols.length).length:=List.Nodup.length_le_of_subset hnd (λx hx=>by
  obtain ⟨y,hy,rfl⟩:=List.mem_map.1 hx;obtain ⟨s,hs,rfl⟩:=List.mem_map.1 hy;have:=hb s hs;exact List.mem_range.2 (by omega))
 simpa using h1
theorem sS {cols:List Col}{names:List ByteArray}{row:List Val}(hc:aA cols=0)(h:(aW cols names).1=0)(hr:aC cols row=0):
  (aF cols names row).length=names.length/\(aF cols names row).length<=12/\ ∀v∈aF cols names row,valid v=true:=by
 obtain ⟨h1,h2,h3⟩:=jF h;have hl:=uC hr;have hcl:cols.length<=12:=by
  rw[aA]at hc;by_cases q:cols.length<1\/12<cols.length
  ·rw[if_pos q]at hc;omega
  ·omega
 have e:(aF cols names row).length=names.length:=by rw[aF,gX,h1,List.length_map]
 refine ⟨e,by omega,λv hv=>?_⟩;rw[aF,fV,h1,List.map_map]at hv;obtain ⟨s,hs,rfl⟩:=List.mem_map.1 hv;have hb:=h2 s hs;show valid (if 0<=index cols s/\index cols s<(row.length:Int) then row.getD (index cols s).toNat zeroV else zeroV)=true;have hb2:0<=index cols s/\index cols s<(row.length:Int):=by omega
 rw[if_pos hb2];have hlt:(index cols s).toNat<row.length:=by omega
 rw[List.getD_eq_getElem?_getD,List.getElem?_eq_getElem hlt];exact Ji hr (List.getElem?_eq_getElem hlt)
theorem FB {row:List Val}(hl:row.length<=12)(hv: ∀v∈row,valid v=true):dC row=⟨(encR row).toArray⟩:=by
 have h0:ah lY 0 row=0:=by
  refine uf 0 λi hi=>?_;rw[lY,hv _ (List.getElem_mem hi)];rfl
 rw[dC,encS,if_neg (by omega),if_neg (by omega)]
theorem Nf {a b:List Val}(hl:a.length<=12)(hv: ∀v∈a,valid v=true)(hl':b.length<=12)(hv': ∀v∈b,valid v=true):dC a=dC b↔a=b:=by
 constructor
 ·intro h;rw[FB hl hv,FB hl' hv']at h;injection h with h;have h2:=congrArg Array.toList h;exact Lj hl hl' hv hv' (by simpa using h2)
 ·rintro rfl;rfl
theorem tabErr_zero {cols:List Col}{rows:List Ent}(h:dh cols rows=0):ay rows=0/\dS rows=true/\ ∀x∈rows,aC cols x.row=0:=by
 rw[dh]at h;by_cases h1:ay rows=0
 ·rw[if_neg (by omega)]at h;cases h2:dS rows
  ·rw[h2,if_pos rfl]at h;omega
  ·rw[h2,if_neg (by simp)]at h;exact ⟨h1,rfl,Iw h λ_ _ _=>rfl⟩
 ·rw[if_pos h1]at h;exact absurd h h1
theorem eU {rows:List Ent}(h:ay rows=0)(ht:dS rows=true):rows.length<=4096/\ ∀x∈rows,0<x.count/\x.count<=65536:=by
 have hl:rows.length<=4096:=by
  rw[ay]at h;by_cases q:4096<rows.length
  ·rw[if_pos q]at h;omega
  ·omega
 refine ⟨hl,λx hx=>?_⟩;rw[ay,if_neg (by omega)]at h;obtain ⟨j,hj⟩:=List.mem_iff_getElem?.1 hx;have h1:=dE h j x hj;rw[dm]at h1;have h2:aQ x=0:=by
  by_cases q:aQ x=0
  ·exact q
  ·rw[if_pos q]at h1;exact absurd h1 q
 rw[if_neg (by omega)]at h1;have h3:x.count≠0:=λq=>by rw[if_pos q]at h1;omega
 have h4: -65536<=x.count/\x.count<=65536:=by
  rw[aQ]at h2;by_cases q:12<x.row.length\/x.count < -65536\/65536<x.count
  ·rw[if_pos q]at h2;omega
  ·omega
 rw[dS,Bool.and_eq_true,List.all_eq_true]at ht;have h5:=ht.2 x hx;simp at h5;omega
theorem iF {c:Chk}{rc oc:List Col}{zs:List Zone}(h:aR c rc oc zs=0):
  (0<=c.kind/\c.kind<=6)/\aA rc=0/\(iW c.kind=false->(aW rc c.cols).1=0/\0<c.cols.length/\((c.kind=2\/c.kind=6)->c.cols.length=1)/\(cK c.kind=true->aA oc=0/\(aW oc c.ocols).1=0/\c.cols.length=c.ocols.length)):=by
 rw[aR]at h;by_cases h1:c.kind<0\/6<c.kind\/c.policy<0\/2<c.policy
 ·rw[if_pos h1]at h;omega
 rw[if_neg h1]at h;by_cases h2:c.policy=0/\(c.kind=5\/c.kind=6)
 ·rw[if_pos h2]at h;omega
 rw[if_neg h2]at h;by_cases h3:aA rc=0
 ·rw[if_neg (by omega)]at h;refine ⟨by omega,h3,λhu=>?_⟩;rw[if_pos hu,kz]at h;by_cases h4:(aW rc c.cols).1=0
  ·have e4:=(jF h4).1;have l4:(aW rc c.cols).2.length=c.cols.length:=by rw[e4,List.length_map]
   rw[if_neg (by omega)]at h;by_cases h5:(aW rc c.cols).2.length=0\/((c.kind=2\/c.kind=6)/\1<(aW rc c.cols).2.length)
   ·rw[if_pos h5]at h;omega
   rw[if_neg h5]at h;refine ⟨h4,by omega,by omega,λho=>?_⟩;by_cases h6:(c.kind=2\/c.kind=6)/\(rc.getD ((aW rc c.cols).2.getD 0 0).toNat default).kind≠2
   ·rw[if_pos h6]at h;omega
   rw[if_neg h6,ho,if_neg (by simp)]at h;by_cases h7:aA oc=0
   ·rw[if_neg (by omega)]at h;by_cases h8:(aW oc c.ocols).1=0
    ·have e8:=(jF h8).1;have l8:(aW oc c.ocols).2.length=c.ocols.length:=by rw[e8,List.length_map]
     rw[if_neg (by omega)]at h;by_cases h9:(aW rc c.cols).2.length=(aW oc c.ocols).2.length
     ·exact ⟨h7,h8,by omega⟩
     ·rw[if_pos h9]at h;omega
    ·rw[if_pos h8]at h;exact absurd h h8
   ·rw[if_pos h7]at h;exact absurd h h7
  ·rw[if_pos h4]at h;exact absurd h h4
 ·rw[if_pos h3]at h;exact absurd h h3
theorem ed {c:Chk}{rc oc:List Col}{rr orr:List Ent}{zs:List Zone}(h:bf c rc oc rr orr zs=0):aR c rc oc zs=0/\dh rc rr=0/\(cK c.kind=true->dh oc orr=0):=by
 rw[bf]at h;by_cases h1:aR c rc oc zs=0
 ·rw[if_neg (by omega)]at h;by_cases h2:dh rc rr=0
  ·rw[if_neg (by omega)]at h;refine ⟨h1,h2,λhu=>?_⟩;rw[if_pos hu]at h;exact h
  ·rw[if_pos h2]at h;exact absurd h h2
 ·rw[if_pos h1]at h;exact absurd h h1
open Go.RowKit Go.Maps
def uY (cols:List Col)(names:List ByteArray)(rows:List Ent)(s:ByteArray):Int:=iU (rows.filter λx=>decide (dC (aF cols names x.row)=s))
theorem Jc (cols:List Col)(names:List ByteArray)(rows:List Ent)(x:Ent)(s:ByteArray):
  uY cols names (rows++[x]) s=if s=dC (aF cols names x.row) then uY cols names rows s+x.count else uY cols names rows s:=by
 rw[uY,uY,List.filter_append,FC];by_cases h:s=dC (aF cols names x.row)
 ·subst h;rw[if_pos rfl,List.filter_cons_of_pos (by simp),List.filter_nil,iU,iU];omega
 ·rw[if_neg h];have h2:decide (dC (aF cols names x.row)=s)=false:=by simpa using λe:dC (aF cols names x.row)=s=>h e.symm
  simp[h2,iU]
theorem Om {cols:List Col}{names:List ByteArray}{rows:List Ent}(h: ∀x∈rows,0<x.count/\x.count<=65536)(hl:rows.length<=4096)(s:ByteArray):0<=uY cols names rows s/\uY cols names rows s<=268435456:=by
 have h1:=Dv (l:=rows.filter λx=>decide (dC (aF cols names x.row)=s)) (C:=65536) λx hx=>by
  have:=h x (List.mem_filter.1 hx).1;omega
 have h2:=List.length_filter_le (λx:Ent=>decide (dC (aF cols names x.row)=s)) rows;rw[uY];omega
theorem jP (row:List Val):(dC row).size<=maxLen:=by
 have h:(encS row).2.length<=1000:=by
  rw[encS]
  split
  ·simp
  ·split
   ·simp
   ·rename_i h1 h2;have h3:ah lY 0 row=0:=by omega
    have h4: ∀v∈row,valid v=true:=λv hv=>by
     have:=Iw h3 (λ_ _ _=>rfl) v hv;rw[lY]at this;cases h:valid v
     ·rw[h]at this;simp at this
     ·rfl
    have key: ∀l:List Val,(∀v∈l,valid v=true)->(l.flatMap gG).length<=66*l.length:=λl=>by
     induction l with
     |nil=>intro _;simp
     |cons v l ih=>
      intro hv;have i1:=ih λu hu=>hv u (by simp[hu]);have i2:(gG v).length<=66:=by
       rcases ow (hv v (by simp)) with h|h|h|h|h
       ·rw[gG];simp[h.1]
       ·rw[gG];simp[h.1]
       ·rw[gG];simp[h.1,kQ]
       ·exact pJ v (s:=v.str) (by omega) rfl
       ·rw[gG];simp[h.1,kQ]
      rw[List.flatMap_cons,List.length_append,List.length_cons];omega
    have:=key row h4;show (encR row).length<=1000;rw[encR,List.length_cons];omega
 show (encS row).2.toArray.size<=maxLen;rw[List.size_toArray];simp only[maxLen];omega
theorem ol_in {α:Type}[Rep α]{e:TypeId}{B:Nat}{O:Nat->Prop}{T:List TypeId}{w:World}{A:Option Addr}{m c:Nat}{xs:List α}(h:OL e B O T w (.slice A m c) xs)(hl:xs.length=m):In w A m c xs:=by
 obtain ⟨A9,c9,e9,h9⟩:=h.inn;injection e9 with q1 q2 q3;subst q1 q3;rw[hl]at h9;exact h9
theorem xB (w:World)(nm:ByteArray)(A:Option Addr)(n c:Nat)(cols:List Col)(hc:In w A n c cols)(A':Option Addr)(n' c':Nat)(A2:Option Addr)(n2 c2:Nat)(rows:List Ent)(hr:In w A2 n2 c2 rows)(A3:Option Addr)(n3 c3:Nat)(names:List ByteArray)(hn:In w A3 n3 c3 names)(hb0:n<=4096)(hb1:n3<=4096)(hb2:n2<=4096)(hcnt: ∀x∈rows,0<x.count/\x.count<=65536):
  Calls Tryz.prog 94 #[.agg #[.string nm,.slice A n c,.slice A' n' c',.slice A2 n2 c2],.slice A3 n3 c3] w
   λe w'=>(∃b,e=.returned (.map (some b))/\w.heap.size<=b/\iC Tryz.prog 9 w' b n2 (.int .i64 0) (λs=>.int .i64 (uY cols names rows s)))/\Below w.heap.size w w':=by
 have h63:=hr.le;have hmm:=@run_makeMap Tryz.prog;have Td:=hide hcnt;have Ci:=hide hr.len;clear hcnt;go_enter Tryz.func94,Tryz.ntmps94;have HC:=hide hc;clear hc;have HR:=hide hr;clear hr;have HN:=hide hn;clear hn;go_wp2_with fail;obtain ⟨W1,hW1⟩: ∃W,W=w.alloc (.cells #[.string nm,.slice A n c,.slice A' n' c',.slice A2 n2 c2] 32):=⟨_,rfl⟩;obtain ⟨hbW1,gB,g0,g1,g2,g3⟩:=qx hW1 rfl;rw[<-hW1];clear hW1;have HC:=hide (HC.out.below hbW1);have HR:=hide (HR.out.below hbW1);have HN:=hide (HN.out.below hbW1);have p8:=hide hbW1;clear hbW1;have LR:=lt_of_cell g0;have FT:=hide (iC.made Tryz.prog 9 W1 (.int .i64 0));have HB0:Hid (Below W1.heap.size W1 (W1.alloc (.map #[] 0))):=hide ae;rw[<-gB.out];go_wp2;go_loopw [12] (λi wr=> ∃k:Nat,k<=n2/\i=.int .i64 k/\iC Tryz.prog 9 wr W1.heap.size k (.int .i64 0) (λs=>.int .i64 (uY cols names (rows.take k) s))/\Below W1.heap.size W1 wr) (λi _=>n2-(RowKit.intOf i).toNat)
 case atStart=>exact ⟨0,Nat.zero_le _,rfl,FT.out,HB0.out⟩
 case round=>
  obtain ⟨k,hk,rfl,hm,hb⟩:=hrel;have HM:=hide hm;clear hm;have HC:=hide (HC.out.below hb);have HR:=hide (HR.out.below hb);have HN:=hide (HN.out.below hb);obtain ⟨g0,g1,g2,g3,LR⟩:=xz hb LR g0 g1 g2 g3;have fq:=hide hb;clear hb;by_cases hlt:k<n2
  ·obtain ⟨b,off,x,rfl,hBb,HX,Ax,An,Ac,e0,e1,e2,e3⟩:=HR.out.ent hlt;have k0:(0:Int)<=(k:Int):=by omega
   have k1:(k:Int)<(n2:Int):=by omega
   have Sz:=hide (Td.out x (mem_of_drop HX.out));have IV:=hide (λs=>Om (cols:=cols) (names:=names) (rows:=rows.take k) (λy hy=>Td.out y (List.mem_of_mem_take hy)) (by rw[List.length_take];omega) s);obtain ⟨T,hT⟩: ∃T,dC (aF cols names x.row)=T:=⟨_,rfl⟩;obtain ⟨F,hF⟩: ∃F,uY cols names (rows.take k) T=F:=⟨_,rfl⟩;have Kh:=hide (jP (aF cols names x.row));rw[hT]at Kh;have HT:=hide hT;have HF:=hide hF;have YF:=IV.out T;rw[hF]at YF;have hxc:=Sz.out;have hwr:IntKind.i64.wrap (F+x.count)=F+x.count:=IntWalk.i64_in _ (by omega);have Dz:Hid (W1.heap.size<wr.heap.size):=hide HM.out.lt;have Vh:Hid (∀V,V.heap[W1.heap.size]?=wr.heap[W1.heap.size]?->(Instr.lookup 132 (.map (some W1.heap.size)) (.string T) false).run Tryz.prog V=.ok (.int .i64 F) V/\
     ∃w2,(Instr.mapUpdate 132 (.map (some W1.heap.size)) (.string T) (.int .i64 (F+x.count))).run Tryz.prog V=.ok () w2/\iC Tryz.prog 9 w2 W1.heap.size (k+1) (.int .i64 0) (λs=>.int .i64 (uY cols names (rows.take (k+1)) s))/\V.grownBy w2 (some W1.heap.size)):=hide λV hV=>by
    refine ⟨?_,?_⟩
    ·rw[<-HF.out];exact HM.out.look Tryz.underlying132 Tryz.underlying9 (λV=>Tryz.zeroValue3 V) Kh.out hV
    ·obtain ⟨w2,h1,h2,h3⟩:=(HM.out.same hV).update Tryz.underlying132 Tryz.underlying9 Kh.out (by simp only[maxLen];omega) (.int .i64 (F+x.count));refine ⟨w2,h1,h2.congr λs=>?_,h3⟩;rw[aV HX.out,Jc,HT.out];by_cases hs:s=T
     ·subst hs;rw[if_pos rfl,if_pos rfl,HF.out]
     ·rw[if_neg hs,if_neg hs]
   clear hT hF YF hxc;have HE2:=hide e2;go_wp2_with fail;obtain ⟨W2,hW2⟩: ∃W,W=wr.alloc (.cells #[.slice Ax An Ac,.int .i64 x.count] 61):=⟨_,rfl⟩;obtain ⟨hbW2,KV,x0,x1⟩:=wL hW2 rfl;rw[<-hW2];clear hW2;have HC:=hide (HC.out.below hbW2);have HN:=hide (HN.out.below hbW2);obtain ⟨g0,g1,g2,g3,LR⟩:=xz hbW2 LR g0 g1 g2 g3;have TM:=hide hbW2;have uH:=hide (aa fq.out hbW2);clear hbW2;have LX:=lt_of_cell x0;have G1:=hide g1;have X0:=hide x0;have X1:=hide x1;have Xh:=hide (HE2.out.below TM.out);have HW2:=hide TM.out;have Sy:=hide uH.out;clear x0 x1 e0 e1 e2 HE2;have x0:=X0.out;have x1:=X1.out;have R4:True:=trivial;go_region_held3 (λV=>V.cell? ⟨w.heap.size,1,none⟩=some (.slice A n c)/\V.cell? ⟨wr.heap.size,0,none⟩=some (.slice Ax An Ac)/\V.cell? ⟨wr.heap.size,1,none⟩=some (.int .i64 x.count))
    (first|exact ⟨u0,u1,u2⟩|exact ⟨bat vZ.out LR G1.out,bat vZ.out LX X0.out,bat vZ.out LX X1.out⟩|exact ⟨bat HB3.out LR G1.out,bat HB3.out LX X0.out,bat HB3.out LX X1.out⟩|exact ⟨g1,x0,x1⟩)
    (first
     |(clear R4;go_at_call 89;refine (zO _ A n c cols (by exact HC.out.below (Below.refl _ _).drew) A3 n3 c3 names (by exact HN.out.below (Below.refl _ _).drew) Ax An Ac x.row (by exact Xh.out.below (Below.refl _ _).drew) (by omega) hb1).mono ?_;rintro e w3 ⟨⟨A4,m4,c4,rfl,Nv,Vy,hm4⟩,hb3⟩;have HI:=hide (ol_in Nv Vy);have HB3:=hide (below_undrew hb3);clear Nv Vy hm4 hb3;have MJ:True:=trivial)
     |(clear MJ;go_at_call 96;refine (z8 _ A4 m4 c4 _ (by exact HI.out)).mono ?_;rintro e w4 ⟨rfl,hb4⟩;rw[HT.out];have vZ:=hide (aa HB3.out hb4);have Yr:=hide (aa HW2.out vZ.out);have lk:=(Vh.out w4 (Yr.out.block _ Dz.out)).1;obtain ⟨w5,YX,YR,hg5⟩:=(Vh.out w4 (Yr.out.block _ Dz.out)).2;have Zy:=hide YR;have l6:Hid (Below W1.heap.size W1 w5):=hide ((aa Sy.out vZ.out).grown hg5 (aa Sy.out vZ.out).size (λj e=>by injection e with e;omega));have u0:=(World.cell?_of_block (a:=⟨w.heap.size,1,none⟩) (hg5.block w.heap.size (lt_of_cell (bat vZ.out LR G1.out)) (λe=>by injection e with e;have:=gB.out;omega))).trans (bat vZ.out LR G1.out);have u1:=(World.cell?_of_block (a:=⟨wr.heap.size,0,none⟩) (hg5.block wr.heap.size (lt_of_cell (bat vZ.out LX X0.out)) (λe=>by injection e with e;have:=Dz.out;omega))).trans (bat vZ.out LX X0.out);have u2:=(World.cell?_of_block (a:=⟨wr.heap.size,1,none⟩) (hg5.block wr.heap.size (lt_of_cell (bat vZ.out LX X1.out)) (λe=>by injection e with e;have:=Dz.out;omega))).trans (bat vZ.out LX X1.out);clear hb4 YR hg5;have SE:True:=trivial))
   go_wp2;go_roundw
   case rel=>exact ⟨k+1,by omega,by go_num,Zy.out,l6.out⟩
   case measure=>simp[RowKit.intOf];omega
  ·have HF:Hid (rows.take k=rows):=hide (List.take_of_length_le (by have:=Ci.out;omega));have qc:=HM.out;rw[HF.out]at qc;have qc:=hide qc;obtain rfl:k=n2:=by omega
   go_wp2;go_ret;exact ⟨⟨_,rfl,by have:=p8.out.size;omega,qc.out⟩,(aa p8.out fq.out)⟩
def jD {α:Type}(p:α->Bool):Nat->List α->Int
 | _,[]=> -1
 |k,x :: l=>if p x then k else jD p (k+1) l
theorem CV {α:Type}(p:α->Bool)(l:List α): ∀k,(decide (0<=jD p k l))=l.any p:=by
 induction l with
 |nil=>intro k;rfl
 |cons x l ih=>
  intro k;rw[jD];cases h:p x
  ·rw[if_neg (by simp),ih (k+1)];simp[h]
  ·rw[if_pos rfl];simp[h]
theorem MO (v:Val)(w:World):
  Calls Tryz.prog 140 #[.agg v.cells.toArray] w λe w'=>e=.returned (.bool (v.kind==0))/\Below w.heap.size w w':=by
 simp only[Val.cells];go_enter Tryz.func140,Tryz.ntmps140;go_wp2;go_ret;exact ⟨rfl,ae⟩
theorem zx (w:World)(A:Option Addr)(n c:Nat)(xs:List Val)(hx:In w A n c xs):
  Calls Tryz.prog 170 #[.slice A n c,.func (.func 140) #[] #[]] w
   λe w'=>e=.returned (.int .i64 (jD (λv:Val=>v.kind==0) 0 xs))/\Below w.heap.size w w':=by
 have h63:=hx.le;go_enter Tryz.func170,Tryz.ntmps170;go_wp2;go_loopw [8] (λi wr=> ∃k:Nat,k<=n/\i=.int .i64 k/\jD (λv:Val=>v.kind==0) 0 xs=jD (λv:Val=>v.kind==0) k (xs.drop k)/\Below w.heap.size w wr) (λi _=>n-(intOf i).toNat)
 case atStart=>exact ⟨0,Nat.zero_le _,rfl,rfl,Below.refl _ _⟩
 case round=>
  obtain ⟨k,hk,rfl,heq,hb⟩:=hrel;have HE:=hide heq;clear heq;by_cases hlt':k<n
  ·obtain ⟨b,off,x,rfl,hB,HX,e0,e1,e2,e3⟩:=(hx.below hb).val hlt';go_wp2_with fail;refine (MO x _).mono ?_;rintro e w1 ⟨rfl,hb1⟩;have hbb:=aa hb hb1;clear hb1 e0 e1 e2;cases hz:(x.kind==0)
   ·go_wp2;all_goals (try (exfalso;go_light;simp_all;done));go_roundw
    case rel=>exact ⟨k+1,by omega,by go_num,by rw[HE.out,HX.out,jD,if_neg (by simp[hz])],hbb⟩
    case measure=>simp[intOf];omega
   ·go_wp2;all_goals (try (exfalso;go_light;simp_all;done));go_ret;exact ⟨aj (by rw[HE.out,HX.out,jD,if_pos hz]),hbb⟩
  ·go_wp2;go_ret;exact ⟨aj (by rw[HE.out,aJ hx.len (by omega),jD]),hb⟩
theorem u6 (w:World)(A:Option Addr)(n c:Nat)(xs:List Val)(hx:In w A n c xs):
  Calls Tryz.prog 139 #[.slice A n c,.func (.func 140) #[] #[]] w
   λe w'=>e=.returned (.bool (decide (0<=jD (λv:Val=>v.kind==0) 0 xs)))/\Below w.heap.size w w':=by
 go_enter Tryz.func139,Tryz.ntmps139;go_wp2_with fail;refine (zx _ _ _ _ xs hx).mono ?_;rintro e w1 ⟨rfl,hb1⟩;go_wp2;go_ret;exact ⟨rfl,hb1⟩
theorem xK (w:World)(A:Option Addr)(n c:Nat)(xs:List Val)(hx:In w A n c xs):
  Calls Tryz.prog 98 #[.slice A n c] w λe w'=>e=.returned (.bool (lg xs))/\Below w.heap.size w w':=by
 have HN:=hide (CV (λv:Val=>v.kind==0) xs 0);go_enter Tryz.func98,Tryz.ntmps98;go_wp2_with fail;refine (u6 _ _ _ _ xs hx).mono ?_;rintro e w1 ⟨rfl,hb1⟩;rw[HN.out];go_wp2;go_ret;exact ⟨rfl,hb1⟩
theorem xE (w:World)(A:Option Addr)(n c:Nat)(xs:List Val)(hx:In w A n c xs):
  Calls Tryz.prog 83 #[.slice A n c] w λe w'=>e=.returned (.bool (lg xs))/\w=w':=by
 have h63:=hx.le;have HN:=hide (show lg xs=xs.any (λv=>v.kind==0) from rfl);obtain ⟨R,hR⟩: ∃R,lg xs=R:=⟨_,rfl⟩;rw[hR]at HN;rw[hR];clear hR;go_enter Tryz.func83,Tryz.ntmps83;go_wp2
 go_loop [3] (λi=> ∃k:Nat,k<=n/\i=.int .i64 k/\R=(xs.drop k).any (λv=>v.kind==0)) (λi=>n-(intOf i).toNat)
 case atStart=>exact ⟨0,Nat.zero_le _,rfl,HN.out⟩
 case round=>
  obtain ⟨k,hk,rfl,heq⟩:=hrel;have HE:=hide heq;clear heq HN;by_cases hlt':k<n
  ·obtain ⟨b,off,x,rfl,hB,HX,e0,e1,e2,e3⟩:=hx.val hlt';cases hz:(x.kind==0)
   ·go_wp2;all_goals (try (exfalso;go_light;simp_all;done))
    go_round
    case rel=>exact ⟨k+1,by omega,by go_num,by rw[HE.out,HX.out,List.any_cons,hz];rfl⟩
    case measure=>simp[intOf];omega
   ·obtain rfl:R=true:=by rw[HE.out,HX.out,List.any_cons,hz];rfl
    go_wp2;all_goals (try (exfalso;go_light;simp_all;done));go_ret;exact ⟨rfl,rfl⟩
  ·obtain rfl:R=false:=by rw[HE.out,aJ hx.len (by omega)];rfl
   go_wp2;all_goals (try (exfalso;go_light;simp_all;done));go_ret;exact ⟨rfl,rfl⟩
end Go.Proofs.YtggejcekmehocaaGreatDoor
